import Derived.Test.YtadnemjjlacolaaGreatFun
set_option linter.all false
namespace Go.Ev
open Go.Proofs
set_option maxRecDepth 100000
variable {disp:Nat->Option FT}{n:Nat}
noncomputable section
def many:Nat:=1099511627776
def Bjp:Nat->Option FT:=fun _=>none
theorem A66:∀g F,Bjp g=some F->A0g TP g F:=fun _ _ h=>by cases h
def Bni(v:EV)(r:R):Bool:=match r with|some (w,_)=>eqV w v|none=>false
end
theorem Boq:Bni Vl (Ag TT Bjp many 60 false 51 [] ⟨.nil,0,0⟩)=true:=by kernel_rfl
theorem Bb7:(Bi.all fun v=>match v with | .int _ _=>true|_=>false)=true:=by kernel_rfl
theorem Bjw {l:List EV}(h:(l.all fun v=>match v with | .int _ _=>true|_=>false)=true)(f g:Loc):Br f l=Br g l:=by
 induction l with
 | nil=>rfl
 | cons a r b=>
  rw[List.all_cons,aV]at h;simp only[Br];rw[b h.2];cases a<;>first|rfl|(simp at h)
theorem Bm2 {l:List EV}(h:(l.all fun v=>match v with | .int _ _=>true|_=>false)=true)(p:Nat->Prop):EV.Tf p l/\l.all EV.one=true:=by
 induction l with
 | nil=>exact⟨trivial,rfl⟩
 | cons a r b=>
  rw[List.all_cons,aV]at h;obtain⟨i1,i2⟩:=b h.2;rw[List.all_cons,i2];cases a<;>first|exact⟨⟨trivial,i1⟩,rfl⟩|(simp at h)
theorem A8s:A0g TP 51 A3d:=by
 intro call round K _ _ args h v h' e;have hs:=(At1 Bhd A66 many 60).1;have d:=Boq;unfold Bni at d;split at d
 ·rename_i w h0 b
  have hw:=A5w d;subst hw;obtain⟨fn,j,hb,k⟩:=(hs 51 [] _ _ _ b).fn;have i:∀f,Cn f Vl=Cn ⟨fun _=>0,fun _=>0⟩ Vl:=fun f=>by
   show Cn f (.agg Bi)=Cn _ (.agg Bi);simp only[Cn];rw[Bjw Bb7 f ⟨fun _=>0,fun _=>0⟩]
  obtain⟨m,o⟩:=Azd (P:=TP) (g:=51) (v:=Vl) i (fun p=>Bm2 Bb7 p) j hb k (fun w=>Ay9 hs.call b i w);cases args with
  | nil=>exact Sound.of m o 51 [] h v h' e
  | cons a r=>cases e
 ·cases d
theorem A1m {P:Program}(h:∀g F,disp g=some F->A0g P g F){G:FT}(a:A0g P n G):∀g F,Ba (Nat.beq g n) (some G) (disp g)=some F->A0g P g F:=by
 intro g F e;rw[Bn]at e;split at e
 ·rename_i hb;cases e;rw[beq_spec hb];exact a
 ·exact h g F e
noncomputable def A28:Nat->Option FT:=fun f=>Ba (Nat.beq f 51) (some A3d) (Bjp f)
theorem A00:∀g F,A28 g=some F->A0g TP g F:=A1m A66 A8s
noncomputable def Bf6:FT:=fun _ _ _ args h=>@List.rec EV (fun _=>R) (some (.bool true,h)) (fun _ _ _=>none) args
theorem Bkp(hd:∀g F,disp g=some F->A0g TP g F)(d:isTrue (Ag TT disp many 60 false n [] ⟨.nil,0,0⟩)=true):A0g TP n Bf6:=by
 intro call round K _ _ args h v h' e;have hs:=(At1 Bhd hd many 60).1;obtain⟨h0,b⟩:=A45 d;obtain⟨fn,f,hb,i⟩:=(hs n [] _ _ _ b).fn;obtain⟨j,k⟩:=Azd (P:=TP) (g:=n) (v:=.bool true) (V:=.bool true) (fun _=>rfl) (fun p=>trivial) f hb i fun w=>Ay9 hs.call b (fun _=>rfl) w
 cases args with
 | nil=>exact Sound.of j k n [] h v h' (by unfold Ati;rw[cK,Aj];exact e)
 | cons a r=>cases e
end Go.Ev
