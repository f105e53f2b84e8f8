import Derived.Test.YtadnemjjlacolaaGreatFun
set_option linter.all false
namespace Go.Ev
open Go.Proofs
set_option maxRecDepth 100000
variable {disp:Nat->Option FT}{n:Nat}
noncomputable section
def many:Nat:=1099511627776
def Bn7:Nat->Option FT:=fun _=>none
theorem Be1:∀g F,Bn7 g=some F->A6l TP g F:=fun _ _ h=>by cases h
def Btk(v:EV)(r:R):Bool:=match r with|some (w,_)=>eqV w v|none=>false
end
theorem Buk:Btk Abr (Ae TT Bn7 many 60 false 51 [] ⟨.nil,0,0⟩)=true:=by kernel_rfl
theorem Bi2:(Bn.all fun v=>match v with | .int _ _=>true|_=>false)=true:=by kernel_rfl
theorem Bob {l:List EV}(h:(l.all fun v=>match v with | .int _ _=>true|_=>false)=true)(f g:Loc):Bx f l=Bx g l:=by
 induction l with
 | nil=>rfl
 | cons a r b=>
  rw[List.all_cons,aR]at h;simp only[Bx];rw[b h.2];cases a<;>first|rfl|(simp at h)
theorem Brb {l:List EV}(h:(l.all fun v=>match v with | .int _ _=>true|_=>false)=true)(p:Nat->Prop):EV.Wz p l/\l.all EV.one=true:=by
 induction l with
 | nil=>exact⟨trivial,rfl⟩
 | cons a r b=>
  rw[List.all_cons,aR]at h;obtain⟨i1,i2⟩:=b h.2;rw[List.all_cons,i2];cases a<;>first|exact⟨⟨trivial,i1⟩,rfl⟩|(simp at h)
theorem Bff:A6l TP 51 A8y:=by
 intro call round K _ _ args h v h' e;have hs:=(Acd A2k Be1 many 60).1;have d:=Buk;unfold Btk at d;split at d
 ·rename_i w h0 b
  have hw:=Bey d;subst hw;obtain⟨fn,j,hb,k⟩:=(hs 51 [] _ _ _ b).fn;have i:∀f,Cr f Abr=Cr ⟨fun _=>0,fun _=>0⟩ Abr:=fun f=>by
   show Cr f (.agg Bn)=Cr _ (.agg Bn);simp only[Cr];rw[Bob Bi2 f ⟨fun _=>0,fun _=>0⟩]
  obtain⟨m,o⟩:=A3v (P:=TP) (g:=51) (v:=Abr) i (fun p=>Brb Bi2 p) j hb k (fun w=>A5x hs.call b i w);cases args with
  | nil=>exact Sound.of m o 51 [] h v h' e
  | cons a r=>cases e
 ·cases d
theorem A7v {P:Program}(h:∀g F,disp g=some F->A6l P g F){G:FT}(a:A6l P n G):∀g F,Bf (Nat.beq g n) (some G) (disp g)=some F->A6l P g F:=by
 intro g F e;rw[Bt]at e;split at e
 ·rename_i hb;cases e;rw[beq_spec hb];exact a
 ·exact h g F e
noncomputable def A84:Nat->Option FT:=fun f=>Bf (Nat.beq f 51) (some A8y) (Bn7 f)
theorem A62:∀g F,A84 g=some F->A6l TP g F:=A7v Be1 Bff
noncomputable def Bnv:FT:=fun _ _ _ args h=>@List.rec EV (fun _=>R) (some (.bool true,h)) (fun _ _ _=>none) args
theorem Boa(hd:∀g F,disp g=some F->A6l TP g F)(d:isTrue (Ae TT disp many 60 false n [] ⟨.nil,0,0⟩)=true):A6l TP n Bnv:=by
 intro call round K _ _ args h v h' e;have hs:=(Acd A2k hd many 60).1;obtain⟨h0,b⟩:=Bdj d;obtain⟨fn,f,hb,i⟩:=(hs n [] _ _ _ b).fn;obtain⟨j,k⟩:=A3v (P:=TP) (g:=n) (v:=.bool true) (V:=.bool true) (fun _=>rfl) (fun p=>trivial) f hb i fun w=>A5x hs.call b (fun _=>rfl) w
 cases args with
 | nil=>exact Sound.of j k n [] h v h' (by unfold Ayt;rw[cO,Ak];exact e)
 | cons a r=>cases e
end Go.Ev
