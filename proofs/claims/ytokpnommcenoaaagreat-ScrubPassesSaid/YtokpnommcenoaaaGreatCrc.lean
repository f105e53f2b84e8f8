import Derived.Test.YtokpnommcenoaaaGreatFun
set_option linter.all false
namespace Go.Ev
open Go.Proofs
set_option maxRecDepth 100000
variable {disp:Nat->Option FT}{n:Nat}
noncomputable section
def many:Nat:=1099511627776
def Bk0:Nat->Option FT:=fun _=>none
theorem A88:∀g F,Bk0 g=some F->Afd TP g F:=fun _ _ h=>by cases h
def Bsb(v:EV)(r:R):Bool:=match r with|some (w,_)=>eqV w v|none=>false
end
theorem Bti:Bsb U0 (Ag TT Bk0 many 60 false 63 [] ⟨.nil,0,0⟩)=true:=by kernel_rfl
theorem Bgv:(Be.all fun v=>match v with | .int _ _=>true|_=>false)=true:=by kernel_rfl
theorem Bmq {l:List EV}(h:(l.all fun v=>match v with | .int _ _=>true|_=>false)=true)(f g:Loc):Bp f l=Bp g l:=by
 induction l with
 | nil=>rfl
 | cons a r b=>
  rw[List.all_cons,bL]at h;simp only[Bp];rw[b h.2];cases a<;>first|rfl|(simp at h)
theorem Bqo {l:List EV}(h:(l.all fun v=>match v with | .int _ _=>true|_=>false)=true)(p:Nat->Prop):EV.T5 p l/\l.all EV.one=true:=by
 induction l with
 | nil=>exact⟨trivial,rfl⟩
 | cons a r b=>
  rw[List.all_cons,bL]at h;obtain⟨i1,i2⟩:=b h.2;rw[List.all_cons,i2];cases a<;>first|exact⟨⟨trivial,i1⟩,rfl⟩|(simp at h)
theorem Bdp:Afd TP 63 A8h:=by
 intro call round K _ _ args h v h' e;have hs:=(Aq6 A46 A88 many 60).1;have d:=Bti;unfold Bsb at d;split at d
 ·rename_i w h0 b
  have hw:=Apd d;subst hw;obtain⟨fn,j,hb,k⟩:=(hs 63 [] _ _ _ b).fn;have i:∀f,Cq f U0=Cq ⟨fun _=>0,fun _=>0⟩ U0:=fun f=>by
   show Cq f (.agg Be)=Cq _ (.agg Be);simp only[Cq];rw[Bmq Bgv f ⟨fun _=>0,fun _=>0⟩]
  obtain⟨m,o⟩:=A28 (P:=TP) (g:=63) (v:=U0) i (fun p=>Bqo Bgv p) j hb k (fun w=>A21 hs.call b i w);cases args with
  | nil=>exact Sound.of m o 63 [] h v h' e
  | cons a r=>cases e
 ·cases d
theorem All {P:Program}(h:∀g F,disp g=some F->Afd P g F){G:FT}(a:Afd P n G):∀g F,Ax (Nat.beq g n) (some G) (disp g)=some F->Afd P g F:=by
 intro g F e;rw[Bo]at e;split at e
 ·rename_i hb;cases e;rw[beq_spec hb];exact a
 ·exact h g F e
noncomputable def A0n:Nat->Option FT:=fun f=>Ax (Nat.beq f 63) (some A8h) (Bk0 f)
theorem Ayg:∀g F,A0n g=some F->Afd TP g F:=All A88 Bdp
noncomputable def Bmt:FT:=fun _ _ _ args h=>@List.rec EV (fun _=>R) (some (.bool true,h)) (fun _ _ _=>none) args
theorem Bl3(hd:∀g F,disp g=some F->Afd TP g F)(d:isTrue (Ag TT disp many 60 false n [] ⟨.nil,0,0⟩)=true):Afd TP n Bmt:=by
 intro call round K _ _ args h v h' e;have hs:=(Aq6 A46 hd many 60).1;obtain⟨h0,b⟩:=A8z d;obtain⟨fn,f,hb,i⟩:=(hs n [] _ _ _ b).fn;obtain⟨j,k⟩:=A28 (P:=TP) (g:=n) (v:=.bool true) (V:=.bool true) (fun _=>rfl) (fun p=>trivial) f hb i fun w=>A21 hs.call b (fun _=>rfl) w
 cases args with
 | nil=>exact Sound.of j k n [] h v h' (by unfold Avg;rw[cI,Ak];exact e)
 | cons a r=>cases e
end Go.Ev
