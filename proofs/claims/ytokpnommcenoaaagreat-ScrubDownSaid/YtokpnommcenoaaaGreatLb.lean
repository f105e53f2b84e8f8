import Derived.Test.YtokpnommcenoaaaGreatCf
import Derived.Test.YtokpnommcenoaaaGreatLa
import Derived.Test.YtokpnommcenoaaaGreatAnchor
set_option linter.all false
namespace Go.Ev
open Go.Proofs
set_option maxRecDepth 100000
variable {L:List (List Value)}
noncomputable def A02:Nat->Option FT:=fun f=>Ax (Nat.beq f 27) (some (Acz F27)) (Ax (Nat.beq f 105) (some Bal) (Bb6 f))
theorem Bn6:∀g F,A02 g=some F->Ae1 TP g F:=Akn (Akn Bh0 Bpv) (Bhm (Ae1.of A4l fun _ _ _=>rfl))
theorem Atq {a b:Bool}(h:Ax a false b=true):a=false/\b=true:=by cases a<;>simp_all [Bn]
theorem Wk:Bw A02:=by
 refine⟨fun g h=>?_,by kernel_rfl⟩;obtain⟨h0,h⟩:=Atq h;obtain⟨_,h⟩:=Atq h;obtain⟨_,h⟩:=Atq h;obtain⟨a,h⟩:=Atq h;obtain⟨_,h⟩:=Atq h;obtain⟨h2,h⟩:=Atq h;obtain⟨b,_⟩:=Atq h;unfold A02 Bb6 A0f;rw[h0,b,a,h2];rfl
theorem call29 {K d:Nat}(h:Ab):Ag TT A02 K (d+1) false 29 [] h=some (.bool true,h):=by
 rw[Avg (show A02 29=some Bog by kernel_rfl)];rfl
theorem Bsj(e:Nat)(he:35<=e):Awh A02 many e:=by
 have a:10000<many:=by unfold many;decide
 have b:A7y A02 many (e-1) Azq:=Bms Wk a (d:=e-1) (by omega) (A6c Wk a (d:=e-1-1) (by omega));intro h B X F q s C f g j i k;exact Bb7 Wk a (d:=e) (by omega) (Boz Wk a (d:=e-1) (by omega)) b C f g j i k
theorem Bek(D Z S B P O:Int)(v1:Value)(w:World)(R1:Bs4 w v1 71 L)(f:∀l∈L,∃o,Bkq w.heap.size l o):
 Calls Tryz.prog 4 #[.agg #[.int .i64 D,.int .i64 Z,.int .i64 S,.int .i64 B,.int .i64 P,.int .i64 O],v1] w fun e w'=>e=.returned (.bool true)/\RowKit.Below w.heap.size w w':=by
 obtain⟨h,b,os,a,e1,o1,g,l1⟩:=Bsh R1 f;obtain⟨v,h',e,rfl,same⟩:=Bkk (K:=many) Wk (by kernel_rfl) (by kernel_rfl) (by unfold many;decide) (d:=40) (by omega) (fun e he=>Bsj e he) (fun h=>call29 h) ⟨D,Z,S,B,P,O⟩ a.hb g (by rw[a.next];exact l1);rw[<-Acs Wk (by decide)]at e;refine Baq a (args:=[gV ⟨D,Z,S,B,P,O⟩,evV v1]) (vs:=[.agg #[.int .i64 D,.int .i64 Z,.int .i64 S,.int .i64 B,.int .i64 P,.int .i64 O],v1]) ?_ ?_ (fun _=>rfl) ((Ao7 A4l Bn6 many 41).1 4 _ _ _ _ e) (fun i j=>same i (by rw[a.next];exact j))
 ·show[Cp A8q (gV ⟨D,Z,S,B,P,O⟩),Cp A8q (evV v1)]=_
  rw[e1];rfl
 ·exact⟨by simp[EV.Tn,EV.ok,gV,gL,I,EV.one],o1,trivial⟩
end Go.Ev
