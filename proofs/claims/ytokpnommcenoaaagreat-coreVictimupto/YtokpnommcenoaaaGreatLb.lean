import Derived.Test.YtokpnommcenoaaaGreatLa
import Derived.Test.YtokpnommcenoaaaGreatAnchor
set_option linter.all false
namespace Go.Ev
open Go.Proofs
set_option maxRecDepth 100000
variable {L:List (List Value)}
noncomputable def A6n:Nat->Option FT:=fun f=>Bb (Nat.beq f 27) (some (Akv F27)) (Bb (Nat.beq f 105) (some A55) (A8g f))
theorem Bgf:∀g F,A6n g=some F->Am5 TP g F:=Apt (Apt Bf6 Blg) (Bfw (Am5.of Bbe fun _ _ _=>rfl))
theorem Asf {a b:Bool}(h:Bb a false b=true):a=false/\b=true:=by cases a<;>simp_all [Bo]
theorem Avq:Ca A6n:=by
 refine⟨fun g h=>?_,by kernel_rfl⟩;obtain⟨h0,h⟩:=Asf h;obtain⟨_,h⟩:=Asf h;obtain⟨_,h⟩:=Asf h;obtain⟨_,h⟩:=Asf h;obtain⟨a,h⟩:=Asf h;obtain⟨h2,h⟩:=Asf h;obtain⟨b,_⟩:=Asf h;unfold A6n A8g A4j;rw[h0,b,a,h2];rfl
theorem call10 {K d:Nat}(h:Ab):Ag TT A6n K (d+1) false 10 [] h=some (.bool true,h):=by
 rw[Atk (show A6n 10=some Bie by kernel_rfl)];rfl
theorem A4a(D Z S B P O:Int)(v1:Value)(w:World)(R1:Bof w v1 72 L)(f:∀l∈L,∃o ws,Bde w l o ws/\o.bs.length<=1048576):
 Calls Tryz.prog 3 #[.agg #[.int .i64 D,.int .i64 Z,.int .i64 S,.int .i64 B,.int .i64 P,.int .i64 O],v1] w fun e w'=>e=.returned (.bool true)/\RowKit.Below w.heap.size w w':=by
 obtain⟨h,b,os,a,e1,o1,g⟩:=Bom R1 f;obtain⟨v,h',e,rfl,same⟩:=A99 (K:=many) Avq (by kernel_rfl) (by kernel_rfl) (by unfold many;decide) (d:=40) (by omega) (fun h=>call10 h) ⟨D,Z,S,B,P,O⟩ a.hb (L:=os) (by rw[a.next];exact g);rw[<-Aba Avq (by decide)]at e;refine A7p a (args:=[gV ⟨D,Z,S,B,P,O⟩,evV v1]) (vs:=[.agg #[.int .i64 D,.int .i64 Z,.int .i64 S,.int .i64 B,.int .i64 P,.int .i64 O],v1]) ?_ ?_ (fun _=>rfl) ((Asp Bbe Bgf many 41).1 3 _ _ _ _ e) (fun i j=>same i (by rw[a.next];exact j))
 ·show[Cj A5e (gV ⟨D,Z,S,B,P,O⟩),Cj A5e (evV v1)]=_
  rw[e1];rfl
 ·exact⟨by simp[EV.Tg,EV.ok,gV,gL,I,EV.one],o1,trivial⟩
end Go.Ev
