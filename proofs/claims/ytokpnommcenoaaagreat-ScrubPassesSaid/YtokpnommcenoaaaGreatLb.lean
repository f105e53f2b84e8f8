import Derived.Test.YtokpnommcenoaaaGreatCf
import Derived.Test.YtokpnommcenoaaaGreatLa
import Derived.Test.YtokpnommcenoaaaGreatAnchor
set_option linter.all false
namespace Go.Ev
open Go.Proofs
set_option maxRecDepth 100000
variable {L:List (List Value)}
noncomputable def A29:Nat->Option FT:=fun f=>Ax (Nat.beq f 27) (some (Ac4 F27)) (Ax (Nat.beq f 105) (some Bbl) (Bez f))
theorem Bng:∀g F,A29 g=some F->Afd TP g F:=All (All Bha Bqx) (Bg3 (Afd.of A46 fun _ _ _=>rfl))
theorem At1 {a b:Bool}(h:Ax a false b=true):a=false/\b=true:=by cases a<;>simp_all [Bo]
theorem Xa:By A29:=by
 refine⟨fun g h=>?_,by kernel_rfl⟩;obtain⟨h0,h⟩:=At1 h;obtain⟨_,h⟩:=At1 h;obtain⟨_,h⟩:=At1 h;obtain⟨a,h⟩:=At1 h;obtain⟨_,h⟩:=At1 h;obtain⟨h2,h⟩:=At1 h;obtain⟨b,_⟩:=At1 h;unfold A29 Bez A0n;rw[h0,b,a,h2];rfl
theorem call29 {K d:Nat}(h:Ab):Ag TT A29 K (d+1) false 29 [] h=some (.bool true,h):=by
 rw[Avv (show A29 29=some Bmt by kernel_rfl)];rfl
theorem Btw(e:Nat)(he:35<=e):Awd A29 many e:=by
 have a:10000<many:=by unfold many;decide
 have b:A65 A29 many (e-1) Az7:=Boz Xa a (d:=e-1) (by omega) (A59 Xa a (d:=e-1-1) (by omega));intro h B X F q s C fq g j f i;exact Bcj Xa a (d:=e) (by omega) (Bqc Xa a (d:=e-1) (by omega)) b C fq g j f i
theorem A8i(D Z S B P O:Int)(v1:Value)(w:World)(R1:Btv w v1 71 L)(f:∀l∈L,∃o,Bnr w.heap.size l o):
 Calls Tryz.prog 5 #[.agg #[.int .i64 D,.int .i64 Z,.int .i64 S,.int .i64 B,.int .i64 P,.int .i64 O],v1] w fun e w'=>e=.returned (.bool true)/\RowKit.Below w.heap.size w w':=by
 obtain⟨h,b,os,a,e1,o1,g,l1⟩:=Bs8 R1 f;obtain⟨v,h',e,rfl,same⟩:=Bd9 (K:=many) Xa (by kernel_rfl) (by kernel_rfl) (by unfold many;decide) (d:=40) (by omega) (fun e he=>Btw e he) (fun h=>call29 h) ⟨D,Z,S,B,P,O⟩ a.hb g (by rw[a.next];exact l1);rw[<-Aaj Xa (by decide)]at e;refine A91 a (args:=[gV ⟨D,Z,S,B,P,O⟩,evV v1]) (vs:=[.agg #[.int .i64 D,.int .i64 Z,.int .i64 S,.int .i64 B,.int .i64 P,.int .i64 O],v1]) ?_ ?_ (fun _=>rfl) ((Aq6 A46 Bng many 41).1 5 _ _ _ _ e) (fun i j=>same i (by rw[a.next];exact j))
 ·show[Cq A8x (gV ⟨D,Z,S,B,P,O⟩),Cq A8x (evV v1)]=_
  rw[e1];rfl
 ·exact⟨by simp[EV.T5,EV.ok,gV,gL,I,EV.one],o1,trivial⟩
end Go.Ev
