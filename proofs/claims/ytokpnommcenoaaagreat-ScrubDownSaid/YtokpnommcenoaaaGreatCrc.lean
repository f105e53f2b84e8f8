import Derived.Test.YtokpnommcenoaaaGreatFun
set_option linter.all false
namespace Go.Ev
open Go.Proofs
set_option maxRecDepth 100000
variable {disp:Nat->Option FT}{n:Nat}
noncomputable section
def many:Nat:=1099511627776
def Bm5:Nat->Option FT:=fun _=>none
theorem Bau:∀g F,Bm5 g=some F->Ae1 TP g F:=fun _ _ h=>by cases h
def Brx(v:EV)(r:R):Bool:=match r with|some (w,_)=>eqV w v|none=>false
end
theorem Btk:Brx Uh (Ag TT Bm5 many 60 false 63 [] ⟨.nil,0,0⟩)=true:=by kernel_rfl
theorem Bgf:(Be.all fun v=>match v with | .int _ _=>true|_=>false)=true:=by kernel_rfl
theorem Bof {l:List EV}(h:(l.all fun v=>match v with | .int _ _=>true|_=>false)=true)(f g:Loc):Bp f l=Bp g l:=by
 induction l with
 | nil=>rfl
 | cons a r b=>
  rw[List.all_cons,bL]at h;simp only[Bp];rw[b h.2];cases a<;>first|rfl|(simp at h)
theorem Bpd {l:List EV}(h:(l.all fun v=>match v with | .int _ _=>true|_=>false)=true)(p:Nat->Prop):EV.Tn p l/\l.all EV.one=true:=by
 induction l with
 | nil=>exact⟨trivial,rfl⟩
 | cons a r b=>
  rw[List.all_cons,bL]at h;obtain⟨i1,i2⟩:=b h.2;rw[List.all_cons,i2];cases a<;>first|exact⟨⟨trivial,i1⟩,rfl⟩|(simp at h)
theorem Bdv:Ae1 TP 63 A7c:=by
 intro call round K _ _ args h v h' e;have hs:=(Ao7 A4l Bau many 60).1;have d:=Btk;unfold Brx at d;split at d
 ·rename_i w h0 b
  have hw:=Ap8 d;subst hw;obtain⟨fn,j,hb,k⟩:=(hs 63 [] _ _ _ b).fn;have i:∀f,Cp f Uh=Cp ⟨fun _=>0,fun _=>0⟩ Uh:=fun f=>by
   show Cp f (.agg Be)=Cp _ (.agg Be);simp only[Cp];rw[Bof Bgf f ⟨fun _=>0,fun _=>0⟩]
  obtain⟨m,o⟩:=A2m (P:=TP) (g:=63) (v:=Uh) i (fun p=>Bpd Bgf p) j hb k (fun w=>A2s hs.call b i w);cases args with
  | nil=>exact Sound.of m o 63 [] h v h' e
  | cons a r=>cases e
 ·cases d
theorem Akn {P:Program}(h:∀g F,disp g=some F->Ae1 P g F){G:FT}(a:Ae1 P n G):∀g F,Ax (Nat.beq g n) (some G) (disp g)=some F->Ae1 P g F:=by
 intro g F e;rw[Bn]at e;split at e
 ·rename_i hb;cases e;rw[beq_spec hb];exact a
 ·exact h g F e
noncomputable def A0f:Nat->Option FT:=fun f=>Ax (Nat.beq f 63) (some A7c) (Bm5 f)
theorem Axv:∀g F,A0f g=some F->Ae1 TP g F:=Akn Bau Bdv
noncomputable def Bog:FT:=fun _ _ _ args h=>@List.rec EV (fun _=>R) (some (.bool true,h)) (fun _ _ _=>none) args
theorem Bng(hd:∀g F,disp g=some F->Ae1 TP g F)(d:isTrue (Ag TT disp many 60 false n [] ⟨.nil,0,0⟩)=true):Ae1 TP n Bog:=by
 intro call round K _ _ args h v h' e;have hs:=(Ao7 A4l hd many 60).1;obtain⟨h0,b⟩:=Baj d;obtain⟨fn,f,hb,i⟩:=(hs n [] _ _ _ b).fn;obtain⟨j,k⟩:=A2m (P:=TP) (g:=n) (v:=.bool true) (V:=.bool true) (fun _=>rfl) (fun p=>trivial) f hb i fun w=>A2s hs.call b (fun _=>rfl) w
 cases args with
 | nil=>exact Sound.of j k n [] h v h' (by unfold Avc;rw[cI,Aj];exact e)
 | cons a r=>cases e
end Go.Ev
