import Derived.Test.YtokpnommcenoaaaGreatFun
set_option linter.all false
namespace Go.Ev
open Go.Proofs
set_option maxRecDepth 100000
variable {disp:Nat->Option FT}{n:Nat}
noncomputable section
def many:Nat:=1099511627776
def Biy:Nat->Option FT:=fun _=>none
theorem A44:∀g F,Biy g=some F->Am5 TP g F:=fun _ _ h=>by cases h
def Bm2(v:EV)(r:R):Bool:=match r with|some (w,_)=>eqV w v|none=>false
end
theorem Bn3:Bm2 Wc (Ag TT Biy many 60 false 63 [] ⟨.nil,0,0⟩)=true:=by kernel_rfl
theorem Ba1:(Ba.all fun v=>match v with | .int _ _=>true|_=>false)=true:=by kernel_rfl
theorem Bgq {l:List EV}(h:(l.all fun v=>match v with | .int _ _=>true|_=>false)=true)(f g:Loc):Bn f l=Bn g l:=by
 induction l with
 | nil=>rfl
 | cons a r b=>
  rw[List.all_cons,bI]at h;simp only[Bn];rw[b h.2];cases a<;>first|rfl|(simp at h)
theorem Bkw {l:List EV}(h:(l.all fun v=>match v with | .int _ _=>true|_=>false)=true)(p:Nat->Prop):EV.Tg p l/\l.all EV.one=true:=by
 induction l with
 | nil=>exact⟨trivial,rfl⟩
 | cons a r b=>
  rw[List.all_cons,bI]at h;obtain⟨i1,i2⟩:=b h.2;rw[List.all_cons,i2];cases a<;>first|exact⟨⟨trivial,i1⟩,rfl⟩|(simp at h)
theorem Bae:Am5 TP 63 A3j:=by
 intro call round K _ _ args h v h' e;have hs:=(Asp Bbe A44 many 60).1;have d:=Bn3;unfold Bm2 at d;split at d
 ·rename_i w h0 b
  have hw:=A45 d;subst hw;obtain⟨fn,j,hb,k⟩:=(hs 63 [] _ _ _ b).fn;have i:∀f,Cj f Wc=Cj ⟨fun _=>0,fun _=>0⟩ Wc:=fun f=>by
   show Cj f (.agg Ba)=Cj _ (.agg Ba);simp only[Cj];rw[Bgq Ba1 f ⟨fun _=>0,fun _=>0⟩]
  obtain⟨m,o⟩:=Aym (P:=TP) (g:=63) (v:=Wc) i (fun p=>Bkw Ba1 p) j hb k (fun w=>Ay8 hs.call b i w);cases args with
  | nil=>exact Sound.of m o 63 [] h v h' e
  | cons a r=>cases e
 ·cases d
theorem Apt {P:Program}(h:∀g F,disp g=some F->Am5 P g F){G:FT}(a:Am5 P n G):∀g F,Bb (Nat.beq g n) (some G) (disp g)=some F->Am5 P g F:=by
 intro g F e;rw[Bo]at e;split at e
 ·rename_i hb;cases e;rw[beq_spec hb];exact a
 ·exact h g F e
noncomputable def A4j:Nat->Option FT:=fun f=>Bb (Nat.beq f 63) (some A3j) (Biy f)
theorem A0v:∀g F,A4j g=some F->Am5 TP g F:=Apt A44 Bae
noncomputable def Bie:FT:=fun _ _ _ args h=>@List.rec EV (fun _=>R) (some (.bool true,h)) (fun _ _ _=>none) args
theorem Bjw(hd:∀g F,disp g=some F->Am5 TP g F)(d:isTrue (Ag TT disp many 60 false n [] ⟨.nil,0,0⟩)=true):Am5 TP n Bie:=by
 intro call round K _ _ args h v h' e;have hs:=(Asp Bbe hd many 60).1;obtain⟨h0,b⟩:=A41 d;obtain⟨fn,f,hb,i⟩:=(hs n [] _ _ _ b).fn;obtain⟨j,k⟩:=Aym (P:=TP) (g:=n) (v:=.bool true) (V:=.bool true) (fun _=>rfl) (fun p=>trivial) f hb i fun w=>Ay8 hs.call b (fun _=>rfl) w
 cases args with
 | nil=>exact Sound.of j k n [] h v h' (by unfold Atm;rw[cI,Al];exact e)
 | cons a r=>cases e
end Go.Ev
