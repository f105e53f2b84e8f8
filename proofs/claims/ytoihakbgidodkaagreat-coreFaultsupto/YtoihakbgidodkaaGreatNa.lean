import Derived.Test.YtoihakbgidodkaaGreatCb
import Derived.Test.YtoihakbgidodkaaGreatIn
import Derived.WalkKit
import Derived.ProofKit
import Derived.OpenShut
import Derived.Carry
import Derived.Deep.Slices
import Derived.Deep.Fields
set_option linter.all false
namespace Go.Ev
open Go.Proofs
set_option maxRecDepth 100000
variable {fz:Fz}{Q:EV->Ab->Prop}{S:Mi}{D:Jp}{E:Nat->En}{Rx:Tv}{X:Co}{e:Jj}{h h' h0:Ab}{v v1 v5:EV}{K b d i j q v3:Nat}{o:K2}{B:Cb}{F:Nat->Prop}{G:EV->EV->EV->EV->EV->Ab->R}{W:List Wr}{dom:Int}{O:List K2}{disp:Nat->Option FT}
theorem MW.re {f:Fz}{Q:Int->Prop}{R:Tv}(a:MW fz Q R S)(d:DI f R D):MW f Q R { S with dr:=D }:=
 ⟨⟨d,⟨a.w.sm,a.w.ps⟩,a.nd,a.Ed,a.opn,a.rq,a.ro,a.ub⟩,{ toWp:=⟨a.wf.sm,a.wf.ps⟩,op:=a.wf.op },a.rt⟩
theorem CJ.re {f:Fz}{L:List (List Nat)}(j:CJ fz E L Rx X)(k:f.z=fz.z)(d:DI fz (orR (A2b E X.ep X.es) Rx) X.S.dr->DI f (orR (A2b E X.ep X.es) Rx) D):CJ f E L Rx { X with S:={ X.S with dr:=D } }:=
 ⟨j.a.re (d j.a.d),j.en,j.len,j.nx,by rw[k];exact j.one⟩
def Fz.pl(fz:Fz)(e:Jj):Fz:=⟨fz.z,fun z o=>fz.u z o\/(e.kind=1/\z=e.Ai/\o=e.off)⟩
theorem CI.Brp{L:List (List Nat)}(i:CI fz L T1 X)(T:¬e.kind=4)(U:fz.z e.Ai)(hs:e.kind=1->Aq4 e.pat/\¬fz.u e.Ai e.off){l:List Jj}(M:l=X.S.dr.ev\/∃n,l=X.S.dr.ev.take n++[e]++X.S.dr.ev.drop n):
 CI (fz.pl e) L T1 { X with S:={ X.S with dr:={ X.S.dr with ev:=l } } }:=by
 obtain⟨E,j⟩:=i;refine⟨E,j.re rfl fun d=>?_⟩;have mem:∀x∈l,x∈X.S.dr.ev\/x=e:=fun x m=>by
  rcases M with rfl|⟨n,rfl⟩
  ·exact .inl m
  ·rcases bH.1 m with m|m
   ·rcases bH.1 m with m|m
    ·exact .inl (bI m)
    ·exact .inr (aN.1 m)
   ·exact .inl (aM m)
 have ap:∀x∈X.S.dr.ev,x.kind=1->e.kind=1->¬(x.Ai=e.Ai/\x.off=e.off):=fun x m C J y=>by
  have:=((d.ev.one x m).2.2 C).2;rw[y.1,y.2]at this;exact(hs J).2 this
 refine⟨d.up,⟨fun x m=>?_,?_⟩,d.st,fun w o s r=>?_⟩
 ·rcases mem x m with y|rfl
  ·have:=d.ev.one x y
   exact⟨this.1,this.2.1,fun k=>⟨(this.2.2 k).1,.inl (this.2.2 k).2⟩⟩
  ·exact⟨T,U,fun k=>⟨(hs k).1,.inr ⟨k,rfl,rfl⟩⟩⟩
 ·show l.Pairwise _
  rcases M with rfl|⟨n,rfl⟩
  ·exact d.ev.pw
  ·have pw:=d.ev.pw
   rw[<-eJ n X.S.dr.ev]at pw;obtain⟨p1,p2,V⟩:=List.pairwise_append.1 pw;refine List.pairwise_append.2 ⟨List.pairwise_append.2 ⟨p1,List.pairwise_singleton _ _,fun a t b hb=>?_⟩,p2,fun a t b hb=>?_⟩
   ·rw[aN.1 hb]
    exact ap a (bI t)
   ·rcases bH.1 t with t|t
    ·exact V a t b hb
    ·rw[aN.1 t]
     exact fun C J y=>ap b (aM hb) J C ⟨y.1.symm,y.2.symm⟩
 ·obtain⟨a,b⟩:=d.rc w o s r
  refine⟨a,b.imp id fun⟨f,u,p,sp,c,no⟩=>⟨f,.inl u,p,sp,c,fun x m y=>?_⟩⟩;rcases mem x m with z|rfl
  ·exact no x z y
  ·exact(hs y.1).2 (by rw[y.2.1,y.2.2];exact u)
theorem Bid(S:Nat)(k:EV->R):K1 iH (bin TT .eql 26) (.ptr S 0) .F7 k=k (.bool false):=by kernel_rfl
theorem Bgv(k:EV->R):K1 iH (bin TT .eql 26) .F7 .F7 k=k (.bool true):=by kernel_rfl
structure iR(h:Ab)(N:Nat)(v:EV)(b:Nat)(L:List K2):Prop where
 row:(L = []/\lenOf v=some 0)\/(b<N/\∃off r op,v=.slice b off L.length r op/\L.length<=r/\∀j (hj:j<L.length) (k:EV->R),Q4 72 (.ptr b (off+j*72)) h k=k (.agg L[j].cells))
 Mh:∀o∈L,o.At h/\(0<o.bs.length->o.bq<N)/\o.bs.length<=1048576/\Vp o.x
theorem iR.frame{N:Nat}{L:List K2}(r:iR h N v b L)(e:∀i,i<N->h'.get i=h.get i):iR h' N v b L:=by
 refine⟨?_,fun o m=>?_⟩
 ·rcases r.row with y|⟨hb,off,n,op,rfl,p,y⟩
  ·exact .inl y
  ·refine .inr ⟨hb,off,n,op,rfl,p,fun j hj k=>?_⟩
   have:=y j hj k;show oB _ (jY (h'.get b) _ 72)=_;rw[e b hb];exact this
 ·obtain⟨a,c,d,f⟩:=r.Mh o m
  exact⟨⟨a.row.frame fun y=>e _ (c y),a.ev,a.pl⟩,c,d,f⟩
theorem iR.Gi{N:Nat}{L:List K2}(r:iR h N v b L)(k:EV->R):Ev.Gi v k=k (I L.length):=by
 rcases r.row with⟨rfl,y⟩|⟨_,off,a,op,rfl,_⟩
 ·unfold Ev.Gi;rw[y];rfl
 ·rfl
theorem iR.at{N:Nat}{L:List K2}(r:iR h N v b L)(hj:j<L.length)(k:EV->R):Wn 72 v (.int .i64 (j:Int)) (fun p=>Q4 72 p h k)=k (.agg L[j].cells):=by
 rcases r.row with⟨rfl,_⟩|⟨_,off,a,op,rfl,_,y⟩
 ·exact absurd hj (cJ _)
 ·rw[Lg hj];exact y j hj k
theorem iR.take{N:Nat}{L:List K2}(r:iR h N v b L){n:Nat}(m:n<L.length):∃y,(∀k:EV->R,h_ 72 v none (some (.int .i64 (n:Int))) none k=k y)/\iR h N y b (L.take n):=by
 rcases r.row with⟨rfl,_⟩|⟨hb,off,a,op,rfl,u,y⟩
 ·exact absurd m (cJ _)
 have p:(L.take n).length=n:=by rw[bK];omega
 refine⟨.slice b off n a op,fun k=>?_,⟨.inr ⟨hb,off,a,op,by rw[p],a_,fun j hj k=>?_⟩,fun o t=>r.Mh o (bI t)⟩⟩
 ·have:iJ (EV.slice b off L.length a op) 72 none (some (.int .i64 (n:Int))) none=some (EV.slice b off n a op):=by
   have f:bound (some (.int .i64 (n:Int))) a L.length=some n:=by
    show Bc (Nat.ble n a) (some n) none=_;rw[aO a_,Aj]
   unfold iJ;simp only[f];cases op with
   | true=>rfl
   | false=>
    show Bc (Nat.ble 0 a) (some (EV.slice b (Bc (Nat.beq a 0) off (Nat.add off (Nat.mul 0 72))) n a false)) none=_;rw[aO (cF _),Aj];have:Bc (Nat.beq a 0) off (Nat.add off (Nat.mul 0 72))=off:=by
     rw[show Nat.add off (Nat.mul 0 72)=off from by rw[show Nat.mul 0 72=0 from rfl];rfl];cases Nat.beq a 0<;>rfl
    rw[this]
  unfold h_;rw[this];rfl
 ·have:=y j a_ k
  rw[List.getElem_take];exact this
theorem PX:(List.replicate 3 (EV.int .i64 0)++[EV.Am]++List.replicate 4 (EV.int .i64 0)++List.replicate 64 (EV.int .u8 0)).length=72:=by kernel_rfl
def Z7(g:Gm):List (List Nat):=List.replicate g.B.toNat (List.replicate 32 0)
def inG(g:Gm)(b:Int):Bool:=decide (0<=b)&&decide (b<g.B)
theorem Bga {g:Gm}{ep w:Int}{o:Nat}{s:List EV}(h:orR (A2b E ep (List.replicate g.B.toNat (Me.nil 0))) T1 w o s):False:=by
 rcases h with⟨b,x,a,st,_⟩|h
 ·rw[eT]at a
  split at a
  ·cases a;cases st
  ·cases a
 ·exact h
theorem PY {g:Gm}(k:rtB g=true)(fz:Fz){R:Tv}(no:∀w o s,¬R w o s):∀n,MW fz (Qa (Er g) (Ej g)) R ((Mi.new g).Vl (Er g) (Ej g) n)/\((Mi.new g).Vl (Er g) (Ej g) n).a = -1/\((Mi.new g).Vl (Er g) (Ej g) n).b = -1
 | 0=>by
  have s:=Qu k;have:=s.s0;refine⟨⟨⟨⟨rfl,⟨fun e he=>(by cases he),.nil⟩,fun z _=>⟨?_,fun _=>?_⟩,fun w o s r=>absurd r (no w o s)⟩,⟨s,fun d _ x f=>(by cases f)⟩,fun d _=>dE,fun d _ x f=>(by cases f),fun y=>absurd rfl y,fun w o s r=>absurd r (no w o s),fun y=>absurd rfl y,⟨Int.le_refl _,?_⟩⟩,{ toWp:=⟨s,fun d _ x f=>(by cases f)⟩,op:=.inl ⟨rfl,rfl⟩ },k⟩,rfl,rfl⟩
  ·show(0:Nat)<=4;omega
  ·show(0:Nat)<=2;omega
  ·show(0:Int)<=g.S;omega
 | n+1=>by
  obtain⟨m,a,b⟩:=PY k fz no n;have bd:=(We (Er g) (Ej g) (Mi.new g) n).1;show MW fz (Qa (Er g) (Ej g)) R (((Mi.new g).Vl (Er g) (Ej g) n).lQ (Er g) (Ej g) n)/\(((Mi.new g).Vl (Er g) (Ej g) n).lQ (Er g) (Ej g) n).a = -1/\(((Mi.new g).Vl (Er g) (Ej g) n).lQ (Er g) (Ej g) n).b = -1;generalize (Mi.new g).Vl (Er g) (Ej g) n=S at m a b bd;unfold Mi.lQ;cases t:iZ (Er g) (Ej g) (n:Int)with
  | true=>rw[aK rfl];exact⟨m,a,b⟩
  | false=>
   rw[aH c_];have p:0<=Cl S.g n->¬S.bad (n:Int).toNat=1:=fun _=>by rw[bd];intro y;cases y
   refine⟨⟨(m.toMI.jr p (fun o s=>no _ o s) (fun q=>?_) a_ a_).1,m.wf.jr p,m.rt⟩,a,b⟩;obtain⟨z0,i,hi,y⟩:=q;have:iZ (Er g) (Ej g) (n:Int)=true:=CL.2 ⟨i,hi,y.imp (fun y=>⟨a_,y⟩) fun y=>⟨a_,y⟩⟩;rw[t]at this;cases this
theorem Bkb {g:Gm}(f:rtB g=true)(fz:Fz)(one:∀z z',fz.z z->fz.z z'->Cl g z=Cl g z'):CI fz (Z7 g) T1 (Co.start g):=by
 have k:(Co.start g).S.g=g:=(We (Er g) (Ej g) (Mi.new g) (g.D*g.Z).toNat).2.1;refine⟨fun _=>En.zero,(PY f fz (fun w o s r=>Bga r) _).1,fun b x a=>.inl ?_,?_,⟨by show(1:Int)<=1;omega,by show(1:Int)<=_;omega⟩,fun z z' h h'=>?_⟩
 ·have a:(List.replicate g.B.toNat (Me.nil 0))[b]? = some x:=a
  rw[eT]at a;split at a
  next m=>
   cases a;refine⟨rfl,?_⟩;unfold Z7;rw[eT,aK m];rfl
  ·cases a
 ·show(Z7 g).length=(List.replicate g.B.toNat (Me.nil 0)).length
  unfold Z7;rw[bO,bO]
 ·rw[k];exact one z z' h h'
theorem xM{N:Nat}{L:List K2}(R0:iR h N v b L)(a:i<L.length){k:Ab->R}(hk:∀h2,Ext h h2->h2.get h.next=some (.cells L[i].cells 36)->h2.next=h.next+1->Ok (k h2) Q):
 Ok (Wn 72 v (.int .i64 (i:Int)) fun p=>Q4 72 p h fun w=>f_ 72 (.ptr h.next 0) w (h.new (.cells (List.replicate 3 (.int .i64 0)++[.Am]++List.replicate 4 (.int .i64 0)++List.replicate 64 (.int .u8 0)) 36)) k) Q:=by
 rw[R0.at a];have ol:=K2.len ((R0.Mh _ (bA a)).1.ev);refine Ok.st L[i].cells (Ad _ _) rfl (by show Fp L[i].cells=72;rw[Bb,ol]) (Bn (by show _=L[i].cells.length;rw[ol];exact PX)) ?_;have m:=PX;generalize List.replicate 3 (EV.int .i64 0)++[EV.Am]++List.replicate 4 (EV.int .i64 0)++List.replicate 64 (EV.int .u8 0)=f at m⊢;have n:Ext h ((h.new (.cells f 36)).put h.next (.cells L[i].cells 36)):=(As.new h _:Ext _ _).Aq (.inr (aD _)) (aT _) _;exact hk _ n (Ae _ _ _) rfl
section
structure Bk(h:Ab)(v:EV)(q:Nat)(L:List (List Nat)):Prop where
 v:∃op,v=.slice q 0 L.length L.length op
 o:∃t,h.get q=some (.cells (L.map Be).flatten t)\/∃z,h.get q=some (.vec (L.map Be).flatten t z)
 w:∀l∈L,l.length=32
 n:0<L.length/\L.length<=256
section
variable{L:List (List Nat)}
theorem Bk.frame(b:Bk h v q L)(e:h'.get q=h.get q):Bk h' v q L:=⟨b.v,by rw[e];exact b.o,b.w,b.n⟩
theorem Bk.lt(b:Bk h v q L)(hb:HB h):q<h.next:=by
 obtain⟨t,o|⟨z,o⟩⟩:=b.o<;>exact hb _ _ o
theorem Bk.Gi(b:Bk h v q L)(k:EV->R):Ev.Gi v k=k (I L.length):=by
 obtain⟨op,rfl⟩:=b.v;rfl
theorem Bk.rows(b:Bk h v q L):∀x∈L.map Be,x.length=32:=fun x a=>by
 obtain⟨l,f,rfl⟩:=cN.1 a;rw[Az];exact b.w l f
theorem Bk.row(b:Bk h v q L):∃x,h.get q=some x/\rowOf x=some (L.map Be).flatten:=by
 obtain⟨t,o|⟨z,o⟩⟩:=b.o
 ·exact⟨_,o,rfl⟩
 ·exact⟨_,o,rfl⟩
theorem Bk.at(b:Bk h v q L)(hj:j<L.length)(k:EV->R):Wn 32 v (.int .i64 (j:Int)) (fun p=>Q4 32 p h k)=k (.agg (Be L[j])):=by
 obtain⟨op,rfl⟩:=b.v;obtain⟨x,f,m⟩:=b.row;have a:=vW (n:=32) b.rows (j:=j) (by rw[bT];exact hj);rw[List.getElem_map]at a;rw[Lg hj,bJ];exact Cu f m a
theorem Bk.Lm(b:Bk h v q L):Ev.Lm h 32 L.length v=some (L.map Be).flatten/\(L.map Be).flatten.length=L.length*32:=by
 have a:=Zo (n:=32) (L.map Be) b.rows;rw[bT]at a;refine⟨?_,a⟩;obtain⟨op,rfl⟩:=b.v;obtain⟨x,k,f⟩:=b.row;have np:=b.n.1;show Bc (Nat.beq L.length 0) (some []) (jY (h.get q) 0 (L.length*32))=_;have m:Nat.beq L.length 0=false:=by
  cases e:L.length with
  | zero=>omega
  | succ n=>rfl
 rw[m,Bo,k];have p:Ly (L.map Be).flatten 0 (L.length*32)=some (L.map Be).flatten:=by rw[<-a];exact Ak rfl
 cases x<;>first|(cases f;done)|(cases f;exact p)
theorem Bk.put(b:Bk h v q L)(hb:HB h)(hj:j<L.length){bs:List Nat}(hw:bs.length=32){kk:Ab->R}(hk:∀h',Bk h' v q (L.set j bs)->As (fun i=>i=q) h h'->HB h'->Ok (kk h') Q):Ok (Wn 32 v (.int .i64 (j:Int)) fun p=>f_ 32 p (.agg (Be bs)) h kk) Q:=by
 have lt:=b.lt hb;have a:=u6 (n:=32) b.rows (j:=j) (by rw[bT];exact hj) (v:=Be bs) (by rw[Az,hw]);have em:(L.map Be).set j (Be bs)=(L.set j bs).map Be:=by rw[List.map_set]
 rw[em]at a;obtain⟨op,rfl⟩:=b.v;rw[Lg hj,bJ];have done:∀o:Ds,(∃t,o=.cells ((L.set j bs).map Be).flatten t\/∃z,o=.vec ((L.set j bs).map Be).flatten t z)->Ok (kk (h.put q o)) Q:=fun o f=>by
  refine hk _ ⟨⟨op,by rw[bM]⟩,?_,fun l a=>?_,by rw[bM];exact b.n⟩ ((As.refl (S:=fun i=>i=q) h).Aq (.inl rfl) lt _) (hb.put lt _)
  ·obtain⟨t,e⟩:=f
   refine⟨t,?_⟩;rw[Ae];rcases e with rfl|⟨z,rfl⟩
   ·exact .inl rfl
   ·exact .inr ⟨z,rfl⟩
  ·rcases cj a with y|rfl
   ·exact b.w l y
   ·exact hw
 obtain⟨t,o|⟨z,o⟩⟩:=b.o
 ·rw[ly o rfl (by show Fp (Be bs)=32;rw[Bb,Az,hw]) a]
  exact done _ ⟨t,.inl rfl⟩
 ·rw[FR o rfl (by show Fp (Be bs)=32;rw[Bb,Az,hw]) a]
  exact done _ ⟨t,.inr ⟨z,rfl⟩⟩
end
theorem Bm3 {g:Gm}(s:Sm g)(h:Ab):∃h' v,Pr (List.replicate 32 (.int .u8 0)) 81 (.int .i64 g.B) (.int .i64 g.B) h=some (v,h')/\Bk h' v h.next (Z7 g)/\Ext h h'/\h'.next=h.next+1:=by
 have b0:=s.b0;have b1:=s.b1;obtain⟨n,a⟩:=bD (show 0<=g.B from a_);have e:=vd (z:=List.replicate 32 (.int .u8 0)) (e:=81) (n:=n) a_ h;refine⟨_,_,by rw[a];exact e,⟨⟨false,?_⟩,⟨81,.inl ?_⟩,?_,?_⟩,As.new _ _,rfl⟩
 ·unfold Z7;rw[bO,a,bF]
 ·rw[Ad,vT]
  unfold Z7;rw[eh,a,bF];rfl
 ·intro l f
  unfold Z7 at f;rw[bY f,bO]
 ·unfold Z7;rw[bO,a,bF];omega
end
theorem CI.len{L:List (List Nat)}(c:CI fz L Rx X):L.length=X.es.length:=by
 obtain⟨E,j⟩:=c;exact j.len
theorem A7n(A:Cf disp)(hK:3000000<K)(hd:30<=d){L:List (List Nat)}(fq:F q):∀(f i:Nat) (h:Ab) (Y:Co),L.length-i<f->i<=L.length->G4 h0 h B X F Y->CI fz L T1 Y->Bk h v q L ->
 Ok (Hh (Ag TT disp K d false) (Ag TT disp K d true) K f (.ptr B.c 0) v (I L.length) (I i) h) fun w h'=>w=.bool true/\Kf F h0 h':=by
 intro f;induction f with
 | zero=>intro i h Y hf;omega
 | succ f ih=>
  intro i h Y hf hi u J b;rw[Hh];simp only[I,Ac];by_cases a:i<L.length
  ·have:decide ((i:Int)<(L.length:Int))=true:=by simp;omega
   simp only[this,Aa,V7];rw[b.at a];have t:(Be L[i]).length=32:=by rw[Az];exact b.w _ (bA a)
   refine Ok.mk (by simp) t fun h2 x g2 n2=>?_
   have l2:=x.next
   have hb:=u.hb;have C2:D6 h2 B Y (fun j=>F j\/j=h.next):=(u.C.ext x).less fun j hj=>by
    rcases hj with hj|rfl
    ·exact .inl hj
    ·exact .inr ⟨aD _,a_⟩
   have le:=J.len;refine(EY (K:=K) A a_ C2 (d:=d) a_ (i:Int)).Ao ?_;rintro _ h3 ⟨bl,e,Z,rfl,ah,c3,rd⟩;obtain⟨rfl,hL⟩:=rd fz L J ⟨a_,a_⟩;rw[bF,aE a]at hL;cases hL;have j3:=c3.ck.iv _ _ J;have M:=c3.k.at C2.hb g2 (.inr rfl);have m:=c3.less (F:=F) fun j=>.inl
   have p:=(u.trans (u.C.gN x)).trans m;simp only[Aa];refine Ok.mk (by simp) t fun h4 T g4 n4=>?_
   have U:=T.at p.hb M;have V:=p.trans (p.C.gN T);rw[Cu g4 rfl (Ak t),Cu U rfl (Ak t)];have al:E4 (.tuple []) false=false/\E4 (.tuple []) true=false:=⟨rfl,rfl⟩;rw[PZ (n:=32) P_ (by rw[<-Az];exact t) (by rw[<-Az];exact t)];simp only[I,aC,aA,Aa,Ac,Vv,Wh];rw[Cn a_ (by have:=b.n.2;omega),show((i:Nat):Int)+1=((i+1:Nat):Int) from a_];have lq:=b.lt hb;refine ih (i+1) h4 Z a_ a_ V j3 (b.frame ?_);rw[T.get _ (by have:=m.k.next;omega) id,m.k.get _ a_ fun y=>y fq,x.get _ lq id]
  ·have:decide ((i:Int)<(L.length:Int))=false:=by simp;omega
   simp only[this,Aa,V8];exact .ret ⟨rfl,u.k⟩
theorem Bm1(A:Cf disp)(hK:3000000<K)(hd:30<=d){L:List (List Nat)}(a:F q)(C:D6 h B X F)(c:CI fz L T1 X)(b:Bk h v q L):Ok (Ag TT disp K (d+1) false 12 [.ptr B.c 0,v] h) fun w h'=>w=.bool true/\Kf F h h':=by
 rw[Ait A a_];simp only[LG,Aa];rw[b.Gi];have n:=b.n;exact A7n A hK hd a K 0 h X a_ a_ (G4.refl C) c b
theorem A69(e:Jj):Ok (Tk K (.agg e.cells) h) fun v h'=>(∃b:Bool,v=.bool b)/\Ext h h':=by
 simp only[Tk,Aa];obtain⟨a,m,f,k,_⟩:=nW h (.cells e.cells 34);rw[m];rw[Al k rfl (v:=I e.Mh) rfl];simp only[I,Ac];by_cases a:e.Mh≥0
 ·simp only[a,aB,Aa]
  rw[Al k rfl (v:=I e.kind) rfl];simp only[I,Ac,T7];by_cases h2:e.kind≥1
  ·simp only[h2,aB,Aa,Ac]
   rw[Al k rfl (v:=I e.kind) rfl];simp only[I,Ac,Of,Aa];exact .ret ⟨⟨_,rfl⟩,f⟩
  ·simp only[h2,aA,Aa,Ac,Of]
   exact .ret ⟨⟨_,rfl⟩,f⟩
 ·simp only[a,aA,Aa,Ac,T7,Of]
  exact .ret ⟨⟨_,rfl⟩,f⟩
theorem xN {L:List Jj}(hw:∀e∈L,e.Wf):∀x∈L.map Jj.cells,x.length=68:=fun x a=>by
 obtain⟨e,he,rfl⟩:=cN.1 a;exact Jj.Bm (hw e he)
theorem Bq4 {L:List Jj}(hw:∀e∈L,e.Wf)(hj:j<L.length):(L.map Jj.cells).flatten[j*68]? = some (I L[j].Mh):=by
 obtain⟨e,a,h2⟩:=uA (n:=68) (xN hw) (j:=j) (by rw[bT];exact hj);rw[e,bm,bU a_,a,fG,List.getElem_map,bW (by rw[Jj.Bm (hw _ (bA hj))];omega)];rfl
theorem Boi {L:List Jj}(hw:∀e∈L,e.Wf)(hi:i<=L.length):(L.map Jj.cells).flatten.take (i*68)=((L.take i).map Jj.cells).flatten/\(L.map Jj.cells).flatten.drop (i*68)=((L.drop i).map Jj.cells).flatten:=by
 have e:(L.map Jj.cells).flatten=((L.take i).map Jj.cells).flatten++((L.drop i).map Jj.cells).flatten:=by
  rw[<-cz,<-cI,eJ]
 have a:((L.take i).map Jj.cells).flatten.length=i*68:=by
  rw[Zo (n:=68) _ (xN fun e he=>hw e (bI he)),bT,bK,dV hi]
 rw[e,<-a,dM,dD];exact⟨rfl,rfl⟩
theorem Bok{s:EV}{L:List Jj}(row:Ce h s q 34 68 L.length (L.map Jj.cells).flatten)(hw:∀e∈L,e.Wf)(w:e.Wf)(hj:h.get j=some (.cells e.cells 34))(hi:i<=L.length)(m:L.length<=1000):
 ∃h',pC s (i:Int) j h=some (.slice h.next 0 (L.length+1) (L.length+1) true,h')/\Ce h' (.slice h.next 0 (L.length+1) (L.length+1) true) h.next 34 68 (L.length+1) ((L.take i++[e]++L.drop i).map Jj.cells).flatten/\h'.next=h.next+1/\As (fun k=>0<L.length/\k=q) h h':=by
 have el:=Jj.Bm w;have fl:((L.take i++[e]++L.drop i).map Jj.cells).flatten=((L.take i).map Jj.cells).flatten++e.cells++((L.drop i).map Jj.cells).flatten:=by
  simp only[cI,cz,dH,List.map_nil,b9,List.flatten_nil,cT]
 have hlen:((L.take i++[e]++L.drop i).map Jj.cells).flatten.length=(L.length+1)*68:=by
  rw[Zo (n:=68) _ (xN fun x a=>?_)]
  ·rw[bT];simp only[aF,bK,av,List.length_singleton];omega
  ·rcases bH.1 a with a|a
   ·rcases bH.1 a with a|a
    ·exact hw x (bI a)
    ·rw[aN.1 a];exact w
   ·exact hw x (aM a)
 have nil:L.length=0->((L.take i++[e]++L.drop i).map Jj.cells).flatten=e.cells/\i=0:=fun h0=>by
  have:=bc.1 h0;subst this;obtain rfl:i=0:=by simpa using hi
  exact⟨by simp,rfl⟩
 rcases row with⟨h0,_,hs⟩|⟨p,rfl,t,f⟩
 ·obtain⟨u,rfl⟩:=nil h0
  have res:pC s ((0:Nat):Int) j h=some (.slice h.next 0 1 1 true,h.new (.vec e.cells 34 68)):=by
   unfold pC;rw[hj];rcases hs with rfl|⟨b,rfl⟩
   ·simp[el]
   ·simp[el]
  refine⟨_,by rw[h0];exact res,.inr ⟨a_,rfl,?_,hlen⟩,rfl,As.new _ _⟩;rw[u];exact Ad _ _
 ·obtain⟨t1,t2⟩:=Boi hw hi
  refine⟨(h.del q).new (.vec (((L.take i++[e]++L.drop i).map Jj.cells).flatten) 34 68),?_,.inr ⟨a_,rfl,?_,hlen⟩,rfl,(As.del h (.inl ⟨p,rfl⟩)).trans (As.new _ _)⟩
  ·unfold pC
   rw[hj];simp only[el,gF,t];rw[aK a_,aK ⟨f,a_,m⟩,bF,t1,t2,fl]
  ·rw[show h.next=(h.del q).next from rfl,Ad]
theorem Bf1 {c r:Ah}{D V M qc:Nat}{cs hs:EV}{L:List Jj}(hd:h.get D=some (.cells [.ptr V 0,cs,hs,.map M] 118))(row:Ce h cs qc 34 68 L.length (L.map Jj.cells).flatten)(hw:∀e∈L,e.Wf)(k:h.get v3=some (.cells e.cells 34))(p:L.length<=1000)
 (hk:∀i:Nat,i<=L.length->Ok (Vi c r K (.ptr D 0) (.ptr v3 0) (I i) h) Q):∀(f i:Nat),i<f->i<=L.length->Ok (Iy c r K f (.ptr D 0) (.ptr v3 0) (I i) h) Q:=by
 intro f;induction f with
 | zero=>intro i m;omega
 | succ f n=>
  intro i m hi;rw[Iy];simp only[I,Ac];by_cases h0:i=0
  ·subst h0
   simp only[show decide (((0:Nat):Int)>0)=false from rfl,Aa,Ac,Pd];exact hk 0 a_
  ·have e3:decide ((i:Int)>0)=true:=by simp;omega
   simp only[e3,Aa];rw[Al hd rfl (v:=cs) rfl]
   try simp only[Ac]
   rw[Cn,show(i:Int)-1=((i-1:Nat):Int) from a_,row.ix a_];simp only[Aa,dA];rw[Al (row.block a_) rfl (Bq4 hw (j:=i-1) a_),Al k rfl (v:=I e.Mh) rfl];simp only[I,Ac,Pd,Aa];by_cases a:L[i-1].Mh>e.Mh
   ·simp only[a,aB,Aa,Ac,GG]
    rw[Cn,show(i:Int)-1=((i-1:Nat):Int) from a_];exact n (i-1) a_ a_
   ·simp only[a,aA,Aa,Ac]
    exact hk i hi
theorem A6f(A:Cf disp)(aq:disp 89=some m')(hK:10000<K)(hd:2<=d){D:Nat}{S:Jp}{G:Nat->Prop}(s:Fm h D S G)(hb:HB h)(w:e.Wf)(hl:S.ev.length+S.Le.length<=199):
 Ok (Ag TT disp K d false 50 [.ptr D 0,.agg e.cells] h) fun _ h'=>∃l:List Jj,(l=S.ev\/∃n,l=S.ev.take n++[e]++S.ev.drop n)/\l.length<=S.ev.length+1/\Fm h' D { S with ev:=l } (Bi G h h')/\As G h h'/\HB h':=by
 obtain⟨e',rfl⟩:∃k,d=k+2:=⟨d-2,a_⟩;rw[Ν A a_];have el:=Jj.Bm w;simp only[GI,Aa];obtain⟨h1,e_,x1,g1,_⟩:=nW h (.cells e.cells 34);rw[e_];have Z:=x1.hb hb;rw[Cu g1 rfl (Ak el)]
 try simp only[Aa]
 refine(A69 (K:=K) e).Ao ?_;rintro _ h2 ⟨⟨bb,rfl⟩,x2⟩;have a:=x2.hb Z;have m:Ext h h2:=x1.trans x2;have s2:=s.ext m;have no:∀v,Ok (some (v,h2)) fun _ h'=>∃l:List Jj,(l=S.ev\/∃n,l=S.ev.take n++[e]++S.ev.drop n)/\l.length<=S.ev.length+1/\Fm h' D { S with ev:=l } (Bi G h h')/\As G h h'/\HB h':=fun v=>
  .ret ⟨S.ev,.inl rfl,Nat.le_succ _,s2.grow s.lt m.next,Ext.to m,a⟩
 cases bb with
 | false=>
  simp only[Aa,Ac];exact no _
 | true=>
  obtain⟨V,M,qc,qh,cs,hs,ms,F,b⟩:=s2.Mh;have g3:=x2.at Z g1;have hwf:=s.wf;simp only[Aa,Ac];rw[Al b.Da rfl (v:=cs) rfl,b.Gh.Gi];simp only[Ac];have e5:decide ((S.ev.length:Int)≥256)=false:=by simp;omega
  simp only[e5,Aa,GH];rw[Al b.Da rfl (v:=cs) rfl,b.Gh.Gi];refine Bf1 (K:=K) b.Da b.Gh hwf.wf g3 a_ ?_ K S.ev.length a_ (aD _);intro i hi;simp only[Vi,Aa,Au];have lD:=a _ _ b.Da;have l3:=a _ _ g3;rw[Jg lD,Al b.Da rfl (v:=cs) rfl]
  try simp only[Aa,Au]
  rw[Jg l3,Cu g3 rfl (Ak el)]
  try simp only[Aa,Au]
  rw[Vt (v:=.agg e.cells) rfl (by simp) (show((EV.agg e.cells).cells).length=68 from el),Ar];have Y:Ext h2 (h2.new (.cells (EV.agg e.cells).cells 34)):=As.new _ _;have g6:(h2.new (.cells (EV.agg e.cells).cells 34)).get h2.next=some (.cells e.cells 34):=Ad _ _
  have n6:(h2.new (.cells (EV.agg e.cells).cells 34)).next=h2.next+1:=rfl
  generalize (h2.new (.cells (EV.agg e.cells).cells 34))=f at Y g6 n6⊢;have aa:=Y.hb a;have ad:=b.Gh.frame (h':=f.lift) fun y=>by rw[Bx];exact Y.get _ (a _ _ (b.Gh.block y)) id
  obtain⟨ae,e7,r7,n7,c7⟩:=Bok (i:=i) ad hwf.wf w (by rw[Bx];exact g6) hi a_;have call:Ag TT disp K (e'+1) false 89 [cs,I i,.slice h2.next 0 1 1 false] f.lift=some (.slice f.lift.next 0 (S.ev.length+1) (S.ev.length+1) true,ae):=by
   rw[vY aq];exact e7
  refine Ok.bC (S:=fun k=>0<S.ev.length/\k=qc) (P:=fun v h'=>v=.slice f.lift.next 0 (S.ev.length+1) (S.ev.length+1) true/\h'=ae) ⟨_,_,call,rfl,rfl⟩ (fun _ _ p=>by rw[p.2];exact c7) ?_;rintro _ _ J s' ⟨rfl,rfl⟩ sm T ay;have U:=T.hb aa;have r7:=r7.frame (h':=J) fun _=>sm.get _
  have az:0<S.ev.length->D≠qc:=fun y e=>by
   have:=b.Gh.block y;rw[<-e,b.Da]at this;cases this
  have gD:=T.at aa (Y.at a b.Da) fun y=>az y.1 y.2
  have a1:=U _ _ gD
  try simp only[Aa,Au]
  rw[J1 (by rcases ay with rfl|⟨w,rfl,_⟩<;>kernel_rfl)];refine Ok.gK gD rfl rfl (by show 1<4;decide) ?_;have l6:f.lift.next=f.next:=rfl
  rw[l6]at r7 n7;have b5:J.next=f.next+1:=by rw[sm.next,n7]
  have l7:=U _ _ (r7.block a_);have p8:As (fun j=>j=D) J (J.put D (.cells ([EV.ptr V 0,cs,hs,.map M].set 1 (.slice f.lift.next 0 (S.ev.length+1) (S.ev.length+1) true)) 118)):=(As.refl (S:=fun j=>j=D) J).Aq (.inl rfl) a1 _;have ah:(J.put D (.cells ([EV.ptr V 0,cs,hs,.map M].set 1 (.slice f.lift.next 0 (S.ev.length+1) (S.ev.length+1) true)) 118)).get D=some (.cells [.ptr V 0,.slice f.next 0 (S.ev.length+1) (S.ev.length+1) true,hs,.map M] 118):=Ae _ _ _;have ai:=p8.hb U;generalize J.put D _=h8 at p8 ah ai⊢;have t:As (fun k=>k=D\/(0<S.ev.length/\k=qc)) h2 h8:=((Ext.to Y).trans (T.mono fun k hk=>.inr hk)).trans (p8.mono fun k hk=>.inl hk);have t1:=m.next
  have t2:=Y.next
  have t3:=t.next
  have aj:As G h h8:=m.to.then t fun k hk hl=>by
   rcases hk with rfl|⟨y,rfl⟩
   ·exact b.sub.2.1
   ·exact b.sub.2.2.2.1 y
  have C:∀k o,h2.get k=some o->k≠D->(0<S.ev.length->k≠qc)->h8.get k=some o:=fun k o g n1 n2=>t.at a g fun y=>y.elim n1 fun z=>n2 z.1 z.2
  have al:(S.ev.take i++[e]++S.ev.drop i).length=S.ev.length+1:=by
   simp only[aF,bK,av,List.length_singleton];omega
  have a5:¬f.next=D:=a_
  have Gl:∀k,G k->k<f.next:=fun k hk=>by have:=s.lt k hk;omega
  refine .ret ⟨S.ev.take i++[e]++S.ev.drop i,.inr ⟨i,rfl⟩,a_,⟨Bi.lt s.lt aj.next,⟨by show(S.ev.take i++[e]++S.ev.drop i).length+S.Le.length<=200;omega,fun x u=>?_,hwf.hwf⟩,V,M,f.next,qh,.slice f.next 0 (S.ev.length+1) (S.ev.length+1) true,hs,ms,F,?_⟩,aj,ai⟩
  ·rcases bH.1 u with u|u
   ·rcases bH.1 u with u|u
    ·exact hwf.wf x (bI u)
    ·rw[aN.1 u];exact w
   ·exact hwf.wf x (aM u)
  ·refine⟨ah,?_,b.marks,?_,?_,?_,⟨fun k hk=>.inl (b.sub.1 k hk),.inl b.sub.2.1,.inl b.sub.2.2.1,fun _=>.inr ⟨a_,by have:=p8.next;omega⟩,fun y=>.inl (b.sub.2.2.2.2 y)⟩,⟨b.apart.1,b.apart.2.1,fun _ y=>by have:=Gl _ (b.sub.1 _ y);omega,b.apart.2.2.2.1,fun _ y=>by have:=Gl _ (b.sub.2.2.2.2 y);omega⟩⟩
   ·refine C _ _ b.map (fun y=>?_) fun y z=>?_
    ·rw[y]at b;have:=b.map;rw[b.Da]at this;cases this
    ·have h1:=b.Gh.block y;rw[<-z,b.map]at h1;cases h1
   ·show Ce h8 _ f.next 34 68 (S.ev.take i++[e]++S.ev.drop i).length _
    rw[al];exact r7.frame fun _=>p8.get _ l7 a5
   ·refine b.Apc.frame fun y=>?_
    have g:=b.Apc.block y;rw[C _ _ g (fun z=>?_) fun z1 z2=>b.apart.2.2.2.2 z1 y z2.symm,g];rw[z,b.Da]at g;cases g
   ·refine b.dev.frame t.next fun k hk=>t.get k (b.dev.lt k hk) fun z=>?_
    rcases z with rfl|⟨z1,rfl⟩
    ·exact b.apart.1 hk
    ·exact b.apart.2.2.1 z1 hk
theorem jg{v1:Nat}(a:h.get v1=some (.cells o.cells 36))(k:EV->R):Ec (.ptr v1 0) h k=k (I o.kind)/\Ec (.ptr v1 1) h k=k (I o.x)/\Ec (.ptr v1 2) h k=k (I o.y)/\Ec (.ptr v1 3) h k=k o.bl:=⟨Al a rfl rfl,Al a rfl rfl,Al a rfl rfl,Al a rfl rfl⟩
theorem Bpm(w:o.ev.Wf):Ly o.cells 4 68=some o.ev.cells:=by
 have e:o.cells = [I o.kind,I o.x,I o.y,o.bl]++o.ev.cells:=rfl;rw[e,Eg (by rw[aF,Jj.Bm w];exact aD _),show(4:Nat) = [I o.kind,I o.x,I o.y,o.bl].length from rfl,dD,<-Jj.Bm w,cM]
theorem QA(L:List (List Nat))(W:List Wr):∀n,(jt L W n).length=L.length
 | 0=>rfl
 | n+1=>by unfold jt;rw[bM,QA L W n]
theorem QB(L:List (List Nat))(b:Nat):∀n,(kn L b n).length=L.length
 | 0=>rfl
 | n+1=>by unfold kn;rw[bM,QB L b n]
theorem Biq {g:Gm}:Aq5 g W=true↔(∀w∈W,jM g w=true)/\1<=W.length/\W.length<=4:=by
 unfold Aq5;simp only[aX,dG,aW];constructor
 ·rintro⟨a,b,c⟩;exact⟨a,a_,a_⟩
 ·rintro⟨a,b,c⟩;exact⟨a,a_,a_⟩
theorem A57(hK:1000<K){w:EV}{n q5:Nat}{v2:EV}{L:List (List Nat)}{g:Gm}(hW:W.length<=4)(J:∀x∈W,jM g x=true)(M:(L.length:Int)=g.B)(lw:0<W.length->n≠q5)
 (kk:∀h,Bk h v5 q5 (jt L W W.length)->As (fun i=>i=q5) h0 h->HB h->Ok (El K v2 v5 h) Q):∀(f i:Nat) (h:Ab),W.length-i<f->i<=W.length->HB h->As (fun i=>i=q5) h0 h->jE h w n W->(0<W.length->n<h.next)->Bk h v5 q5 (jt L W i) ->
 Ok (Eo K f v2 v5 w (I W.length) (I i) h) Q:=by
 intro f;induction f with
 | zero=>intro i h T;omega
 | succ f U=>
  intro i h T hi hb C p lq b;rw[Eo];simp only[I,Ac];by_cases a:i<W.length
  ·have:decide ((i:Int)<(W.length:Int))=true:=by simp;omega
   simp only[this,Aa,Sn];rw[p.at a];have wf:=p.wf _ (bA a);have m:=J _ (bA a);have wb:fB W i=W[i].block.toNat/\fY W i=W[i].bytes:=by unfold fB fY;rw[aE a];exact⟨rfl,rfl⟩
   generalize W[i]=x at wf m wb⊢;have wl:=Wr.len wf;unfold jM at m;simp only[aX,aW]at m
   try simp only[Aa]
   rw[sB];refine Ok.mk rfl wl fun V k e3 _=>?_
   rw[Al e3 rfl (v:=I x.block) rfl]
   try simp only[Aa]
   rw[Cu e3 rfl (show Ly x.cells 1 32=some (Be x.bytes) by
    rw[Eg a_];unfold Wr.cells;rw[List.drop_succ_cons,cZ,bQ (by rw[Az,wf.1];omega)])]
   obtain⟨j,hj⟩:=bD m.1;have t:=k.hb hb;have b3:=b.frame (h':=V) (k.get _ (b.lt hb) id);have Y:=QA L W i;have Z:=k.next
   rw[show I x.block=EV.int .i64 (j:Int) by rw[hj]];refine b3.put t (j:=j) (by rw[Y];omega) wf.1 fun h4 b4 c4 u=>?_
   simp only[Tb,I,Ac];rw[Cn,show((i:Nat):Int)+1=((i+1:Nat):Int) from a_];have e4:(jt L W i).set j x.bytes=jt L W (i+1):=by
    show _=(jt L W i).set (fB W i) (fY W i);rw[wb.1,wb.2,hj];rfl
   rw[e4]at b4;refine U (i+1) h4 a_ a_ u ((C.trans (Ext.to k)).trans c4) (p.frame fun y=>?_) (fun y=>by have:=lq y;have:=c4.next;omega) b4
   ·rw[c4.get _ (by have:=lq y;omega) fun z=>lw y z,k.get _ (lq y) id]
  ·have:decide ((i:Int)<(W.length:Int))=false:=by simp;omega
   have ei:i=W.length:=a_
   subst ei;simp only[this,Aa];exact kk h b C hb
theorem A48(hK:3000<K){q5 p2:Nat}{L:List (List Nat)}{n:Nat}(u:b+n<=L.length){x y:Int}(C:x=b)(J:y=n)(np:p2≠q5)(t:∀h,As (fun i=>i=q5) h0 h->∀k:EV->R,Ec (.ptr p2 1) h k=k (I x)/\Ec (.ptr p2 2) h k=k (I y))
 (kk:∀h,Bk h v5 q5 (kn L b n)->As (fun i=>i=q5) h0 h->HB h->Q v5 h):∀(f i:Nat) (h:Ab),n-i<f->i<=n->HB h->As (fun i=>i=q5) h0 h->Bk h v5 q5 (kn L b i) ->
 Ok (Ei K f (.ptr p2 0) v5 (I ((b+i:Nat):Int)) h) Q:=by
 intro f;induction f with
 | zero=>intro i h M;omega
 | succ f T=>
  intro i h M hi hb a m;rw[Ei];have Y:=m.n;have Z:=QB L b i;simp only[Aa];rw[(t h a _).1];rw[(t h a _).2];simp only[I,Ac];rw[C,J,Cn (n:=(b:Int)+n)];by_cases U:i<n
  ·have hd:decide (((b+i:Nat):Int)<(b:Int)+n)=true:=by simp;omega
   simp only[hd,Aa,S9];rw[Fx,Ax (l:=Be Di) rfl];refine m.put hb (j:=b+i) a_ (bs:=Di) rfl fun h2 b2 c2 p=>?_
   simp only[Sz,Ac];rw[Cn,show(((b+i:Nat):Int))+1=((b+(i+1):Nat):Int) from a_];exact T (i+1) h2 a_ a_ p (a.trans c2) b2
  ·have hd:decide (((b+i:Nat):Int)<(b:Int)+n)=false:=by simp;omega
   have V:i=n:=a_
   subst V;simp only[hd,Aa,Es];exact .ret (kk h m a hb)
def Ab6(o:K2)(L:List (List Nat)):List (List Nat):=if o.kind=1 then jt L (wrs o.x o.bs) o.bs.length else if o.kind=2 then kn L o.x.toNat o.y.toNat else L
theorem Bpw(z:List EV)(h:Ab):Bv z 81 32 0 [] h=some (.slice h.next 0 0 0 false,h.new (.cells [] 81)):=rfl
theorem Bjm(hK:3000000<K)(O:o.At h)(hb:HB h)(hl:o.bs.length<=1048576)(lq:0<o.bs.length->o.bq<h.next){L:List (List Nat)}(b:Bk h v q L){g:Gm}(gB:(L.length:Int)=g.B)(c1:o.kind=1->Aq5 g (wrs o.x o.bs)=true)(c2:o.kind=2->A1w g o.x o.y=true):
 Ok (Jz K (.agg o.cells) v h) fun w h'=>∃q',Bk h' w q' (Ab6 o L)/\Ext h h'/\HB h'/\h.next<=q':=by
 have ol:=K2.len O.ev;simp only[Jz,Aa];obtain⟨h1,e_,x1,g1,n1⟩:=nW h (.cells o.cells 36);rw[e_,Bpw,Ar];have U:=x1.hb hb;have V:Ext h1 (h1.new (.cells [] 81)):=As.new _ _;generalize bb:h1.new (.cells [] 81)=h2 at V;have aj:=V.hb U;have n:=b.n;have al:=x1.trans V;have b2:=b.frame (h':=h2) (al.get _ (b.lt hb) id);obtain⟨ce,cl⟩:=b2.Lm;have lv:lenOf v=some L.length:=by obtain⟨op,rfl⟩:=b.v;rfl
 refine(Tm (b:=h1.next) (e:=81) (sz:=32) (n:=L.length) lv a_ ce cl 0).Ao ?_;rintro w Y ⟨q',r,x3,aq⟩;have a:=x3.hb aj;have bn:=aq n.1;have t2:=V.next;have t3:=x3.next
 have b3:Bk Y w q' L:=⟨⟨true,r.slice n.1⟩,⟨81,.inr ⟨32,r.block n.1⟩⟩,b.w,n⟩;have Z:=V.trans x3;have aa:=x1.trans Z;have t:=Ext.at Z U g1;have np:h.next≠q':=a_
 have fin:∀(L':List (List Nat)) (h4 f:Ab),Ext Y h4->As (fun i=>i=q') h4 f->Bk f w q' L'->L'=Ab6 o L->HB f->∃q',Bk f w q' (Ab6 o L)/\Ext h f/\HB f/\h.next<=q':=fun L' h4 f x c bk e p=>by
  subst e;exact⟨q',bk,(aa.trans x).then c fun j hj y=>by have hj:j=q':=hj;omega,p,a_⟩
 rw[(jg t _).1];simp only[I,Ac];by_cases C:o.kind=1
 ·obtain⟨fw,_,f4⟩:=Biq.1 (c1 C)
  simp only[C,aB,Aa];rw[Cu t rfl (Ak ol)];simp only[Fe,Aa];obtain⟨h4,e_,x4,g4,n4⟩:=nW Y (.cells o.cells 36);rw[e_];have ax:=x4.hb a;rw[(jg g4 _).2.2.2];have ad:=aa.trans x4;have R1:=O.row.frame (h':=h4) fun y=>ad.get _ (lq y) id
  rw[R1.Gi];refine Ok.Ao (FN (K:=K) a_ hl K 0 h4 .Am 0 a_ a_ ax (As.refl h4) g4 a_ (fun y=>by have:=lq y;have:=ad.next;omega) R1 (Ce.nil _ _ _ _) (fun y=>by omega)) ?_;rintro u f ⟨qw,Wt,x5,p,lw⟩;have J:=x4.trans x5;have b5:=b3.frame (h':=f) (J.get _ (b3.lt a) id);have g5:=Ext.at J a t;rw[Wt.Gi];refine A57 (K:=K) a_ f4 fw gB (h0:=f) (v5:=w) (q5:=q') (fun y=>?_) (fun h6 b6 c6 M=>?_) K 0 f a_ a_ p (As.refl _) Wt (fun y=>?_) b5
  ·rw[kF]at y
   have:=lw y;have:=b3.lt a;omega
  ·simp only[El,Aa]
   rw[(jg (c6.at p g5 np) _).1];simp only[I,Ac,C];rw[show decide ((1:Int)=2)=false from rfl];simp only[Aa,Es];exact .ret (fin _ _ _ J c6 b6 (by unfold Ab6;rw[aK C,kF]) M)
  ·rw[kF]at y
   exact(lw y).2
 ·simp only[C,aA,Aa,El]
  rw[(jg t _).1];simp only[I,Ac];by_cases k2:o.kind=2
  ·have ht:=c2 k2
   unfold A1w at ht;simp only[aX,aW]at ht;obtain⟨b,T⟩:=bD ht.1.1;obtain⟨m,hm⟩:=bD (show 0<=o.y from a_);simp only[k2,aB,Aa];rw[(jg t _).2.1];have st:=A48 (K:=K) a_ (h0:=Y) (v5:=w) (q5:=q') (p2:=h.next) (L:=L) (b:=b) (n:=m) (x:=o.x) (y:=o.y) a_ T hm np (Q:=fun w h'=>∃q',Bk h' w q' (Ab6 o L)/\Ext h h'/\HB h'/\h.next<=q') (fun h' c k=>⟨(jg (c.at a t np) k).2.1,(jg (c.at a t np) k).2.2.1⟩) (fun h6 b6 c6 M=>fin _ _ _ (As.refl _) c6 b6 (by unfold Ab6;rw[aH C,aK k2,T,hm,bF,bF]) M) K 0 Y a_ a_ a (As.refl _) b3;rw[dA]at st;rw[T];exact st
  ·simp only[k2,aA,Aa,Es]
   exact .ret (fin _ _ _ (As.refl _) (As.refl _) b3 (by unfold Ab6;rw[aH C,aH k2]) a)
def Mi.evs(S:Mi):Nat:=S.dr.ev.length+S.dr.Le.length
structure uB(h h':Ab)(B:Cb)(X:Co)(F:Nat->Prop)(Y:Co):Prop where
 C:D6 h' B Y F
 k:Kf F h h'
 g:Y.S.g=X.S.g
 ev:Y.S.evs<=X.S.evs+1
theorem il.rh{Y:Co}(c:il h h' B X F Y):uB h h' B X F Y:=⟨c.C,c.k,c.m.g,by show Y.S.dr.ev.length+Y.S.dr.Le.length<=_;rw[c.m.dr.ev];exact Nat.le_succ _⟩
theorem Bk1(A:Cf disp)(m_:disp 89=some m')(hK:10000<K){m:Nat}(M:C0 h m S F)(hb:HB h)(w:e.Wf)(u:S.evs<=199):
 ∃D,Bw K (.ptr m 0) h=some (.ptr D 0,h)/\∀{d:Nat},2<=d->Ok (Ag TT disp K d false 50 [.ptr D 0,.agg e.cells] h) fun _ h'=>∃l:List Jj,(l=S.dr.ev\/∃n,l=S.dr.ev.take n++[e]++S.dr.ev.drop n)/\l.length<=S.dr.ev.length+1/\C0 h' m { S with dr:={ S.dr with ev:=l } } F/\Kf F h h'/\HB h':=by
 obtain⟨lt,D,p,bl,ql,np,q,c,G,a⟩:=M.s;refine⟨D,vo a.Hp,fun hd=>?_⟩;refine(A6f A m_ hK hd a.drv hb w u).mono ?_;rintro _ h' ⟨l,f,k,x,y,t⟩;obtain⟨C,J⟩:=M.drv hb a x y;exact⟨l,f,k,C,J,t⟩
theorem D6.Bn7(C:D6 h B X F){l:List Jj}(n:l.length<=X.S.dr.ev.length+1)(f:C0 h' B.m { X.S with dr:={ X.S.dr with ev:=l } } (B.fr F))(k:Kf (B.fr F) h h')(a:HB h'):uB h h' B X F { X with S:={ X.S with dr:={ X.S.dr with ev:=l } } }:=by
 refine⟨⟨f,k.at C.hb C.core (.inr (.inl rfl)),k.at C.hb C.ar (.inr (.inr (.inl rfl))),?_,⟨C.wf.rt,C.wf.an.of rfl,C.wf.sz⟩,C.out,a⟩,k.less fun _=>.inl,rfl,?_⟩
 ·exact C.map.frame (k.get _ (C.hb _ _ C.map.map) fun y=>y (.inr (.inr (.inr (.inl rfl))))) (k.get _ (C.hb _ _ C.map.row) fun y=>y (.inr (.inr (.inr (.inr (.inl rfl)))))) (k.get _ (C.hb _ _ C.map.live) fun y=>y (.inr (.inr (.inr (.inr (.inr rfl))))))
 ·show l.length+X.S.dr.Le.length<=X.S.dr.ev.length+X.S.dr.Le.length+1
  omega
def Bq1(fz:Fz)(o:K2):Prop:=o.kind=9->¬o.ev.kind=4/\fz.z o.ev.Ai/\(o.ev.kind=1->Aq4 o.ev.pat/\¬fz.u o.ev.Ai o.ev.off)
def Fz.op(fz:Fz)(o:K2):Fz:=if o.kind=9 then fz.pl o.ev else fz
structure xO(o:K2)(X Y:Co)(e:Int):Prop where
 w:e=0->o.kind=1->Aq5 X.S.g (wrs o.x o.bs)=true
 t:e=0->o.kind=2->A1w X.S.g o.x o.y=true
 iv:∀fz L,CI fz L T1 X->Bq1 fz o->CI (fz.op o) (if e=0 then Ab6 o L else L) T1 Y
 r:∀fz L,CI fz L T1 X->o.kind=3->inG X.S.g o.x=true->e=0
theorem uC(a:¬o.kind=1)(f:¬o.kind=2)(L:List (List Nat)):Ab6 o L=L:=by unfold Ab6;rw[aH a,aH f]
theorem QC{Y:Co}{e:Int}(a:¬o.kind=1)(f:¬o.kind=2)(k:¬o.kind=9)(m:¬o.kind=3)(iv:∀fz L,CI fz L T1 X->CI fz L T1 Y):xO o X Y e:=
 ⟨fun _ y=>absurd y a,fun _ y=>absurd y f,fun fz L c _=>by unfold Fz.op;rw[aH k,uC a f,ite_self];exact iv _ _ c,fun _ _ _ y=>absurd y m⟩
theorem Bpk(A:Cf disp)(m_:disp 89=some m')(hK:3000000<K)(C:D6 h B X F)(O:o.At h)(V:o.bs.length<=1048576)(fq:0<o.bs.length->F o.bq)(hv:X.S.evs<=199)(rx:Vp o.x)(hd:31<=d):
 Ok (Ag TT disp K d false 9 [.agg o.cells,.ptr B.c 0] h) fun v h'=>∃(e:Int) (Y:Co),v=I e/\uB h h' B X F Y/\xO o X Y e:=by
 obtain⟨e,rfl⟩:=fc d;rw[Ais A a_];simp only[HZ,Aa];have ol:=K2.len O.ev;obtain⟨J,Z,x1,T,n1⟩:=nW h (.cells o.cells 36);rw[Z];have c1:=C.gN x1;have e0:∀k:EV->R,Ec (.ptr h.next 0) J k=k (I o.kind):=fun k=>(jg T k).1
 have e1:∀k:EV->R,Ec (.ptr h.next 1) J k=k (I o.x):=fun k=>(jg T k).2.1
 have e2:∀k:EV->R,Ec (.ptr h.next 2) J k=k (I o.y):=fun k=>(jg T k).2.2.1
 have fin:∀{x:R},¬o.kind=1->¬o.kind=2->¬o.kind=9->¬o.kind=3->Hm x J B X F->Ok (Ao x fun v h=>some (v,h)) fun v h'=>∃(e:Int) (Y:Co),v=I e/\uB h h' B X F Y/\xO o X Y e:=fun f n u t a=>by
  refine Ok.Ao a ?_;rintro _ h' ⟨e,Y,rfl,c,_⟩;exact .ret ⟨e,Y,rfl,(c1.trans c).t0.rh,QC f n u t c.ck.iv⟩
 rw[e0];simp only[I,Ac];by_cases f:o.kind=1
 ·simp only[f,aB,Aa]
  rw[Cu T rfl (Ak ol)];simp only[Fe,Aa];obtain⟨h2,Z,x2,g2,n2⟩:=nW J (.cells o.cells 36);rw[Z];have ad:=x2.hb c1.hb;rw[(jg g2 _).2.2.2];have R1:=O.row.frame (h':=h2) fun y=>by
   have l:=C.M.lt _ (.inl (fq y));rw[x2.get _ a_ id,x1.get _ l id]
  rw[R1.Gi];refine Ok.Ao (FN (K:=K) a_ V K 0 h2 .Am 0 a_ a_ ad (As.refl h2) g2 a_ (fun y=>by have l:=C.M.lt _ (.inl (fq y));omega) R1 (Ce.nil _ _ _ _) (fun y=>by omega)) ?_;rintro v h3 ⟨q,W,x3,a1,lq⟩;have U:=x2.trans x3;have C3:D6 h3 B X (fun i=>F i\/(0<(wrs o.x o.bs).length/\i=q)):=(c1.C.ext U).less fun i hi=>by
   rcases hi with hi|⟨y,rfl⟩
   ·exact .inl hi
   ·rw[kF]at y
    have:=lq y;exact .inr ⟨a_,this.2⟩
  refine Ok.Ao (YQ A hK (F:=fun i=>F i\/(0<(wrs o.x o.bs).length/\i=q)) (fun y=>.inr ⟨y,rfl⟩) (by rw[kF];omega) (d:=e) a_ C3 W) ?_;rintro _ h4 ⟨e4,Y,rfl,c4,f4,i4⟩;have c4:=c4.less (F:=F) fun i=>.inl
  refine .ret ⟨e4,Y,rfl,((c1.trans (c1.C.gN U)).t0.trans c4).rh,fun y _=>f4 y,fun _ y=>a_,fun fz L c _=>?_,fun _ _ _ y=>a_⟩;unfold Fz.op Ab6;rw[aH a_,aK f,<-kF o.x o.bs];exact(i4 fz L c).2
 simp only[f,aA,Aa];by_cases n:o.kind=2
 ·simp only[n,aB,Aa]
  rw[e1,e2];refine Ok.Ao (YX A a_ c1.C (d:=e) a_ _ _) ?_;rintro _ h4 ⟨e4,Y,rfl,c4,f4,i4⟩;refine .ret ⟨e4,Y,rfl,(c1.t0.trans c4).rh,fun _ y=>a_,fun y _=>f4 y,fun fz L c _=>?_,fun _ _ _ y=>a_⟩;unfold Fz.op Ab6;rw[aH a_,aH f,aK n];exact(i4 fz L c).2
 simp only[n,aA,Aa];by_cases t:o.kind=3
 ·simp only[t,aB,Aa]
  rw[e1];refine Ok.Ao (EY A a_ c1.C (d:=e) a_ _) ?_;rintro _ h2 ⟨bl,e4,Y,rfl,af,c2,rd⟩;simp only[Aa];refine Ok.mk (by simp) (by rw[Az,af]) fun h3 x3 _ _=>?_
  have c3:=(c1.trans c2).trans (c2.C.gN x3);refine .ret ⟨e4,Y,rfl,c3.t0.rh,fun _ y=>a_,fun _ y=>a_,fun fz L c _=>?_,fun fz L c _ y=>?_⟩
  ·unfold Fz.op
   rw[aH a_,uC f n,ite_self];exact c2.ck.iv _ _ c
  ·unfold inG at y
   simp only[aX,aW]at y;have:=C.map.len;have:=C.sm.b0;exact(rd fz L c ⟨y.1,a_⟩).1
 simp only[t,aA,Aa];by_cases k4:o.kind=4
 ·simp only[k4,aB,Aa]
  rw[e1];exact fin f n a_ t (ES A a_ c1.C (d:=e) a_ _)
 simp only[k4,aA,Aa];by_cases k5:o.kind=5
 ·simp only[k5,aB,Aa]
  exact fin f n a_ t (Y1 A a_ c1.C (d:=e) a_)
 simp only[k5,aA,Aa];by_cases k6:o.kind=6
 ·simp only[k6,aB,Aa]
  exact fin f n a_ t (sx A a_ c1.C (d:=e))
 simp only[k6,aA,Aa];by_cases k7:o.kind=7
 ·simp only[k7,aB,Aa]
  rw[e1];exact fin f n a_ t (DG A a_ c1.C (d:=e) a_ rx)
 simp only[k7,aA,Aa];by_cases k8:o.kind=8
 ·simp only[k8,aB,Aa]
  rw[e1];exact fin f n a_ t (DS A a_ c1.C (d:=e) a_ _)
 simp only[k8,aA,Aa];by_cases u:o.kind=9
 ·simp only[u,aB,Aa,Au]
  have l1:=c1.hb _ _ T;rw[mi (v:=.ptr B.m 0) (by simp only[Zm,Aa];rw[c1.C.lift.hJ])];obtain⟨D,dd,dp⟩:=Bk1 (K:=K) A m_ a_ c1.C.lift.M c1.C.lift.hb O.ev hv;rw[mi dd]
  try simp only[Aa,Au]
  rw[Jg (show h.next<J.next from a_),Cu T rfl (Bpm O.ev)]
  try simp only[Aa,Au]
  refine Ok.bC (S:=fun i=>¬B.fr F i) (dp (d:=e) a_) (fun _ _ p=>by obtain⟨_,_,_,_,a,_⟩:=p;exact a) ?_;rintro _ a7 h2 s' ⟨l,ag,V,M',_,ah⟩ sm ch bf;simp only[O4,dr];have p:=c1.C.Bn7 V (M'.same sm) ch (sm.hb ah);refine .ret ⟨0,_,rfl,⟨p.C,c1.k.trans p.k,p.g,p.ev⟩,fun _ y=>a_,fun _ y=>a_,fun fz L c ok=>?_,fun _ _ _ y=>a_⟩;unfold Fz.op;rw[aK u,uC f n,ite_self];exact c.Brp (ok u).1 (ok u).2.1 (ok u).2.2 ag
 simp only[u,aA,Aa,O4];exact .ret ⟨0,X,rfl,c1.t0.rh,QC f n u t fun _ _ c=>c⟩
section
theorem A8m{x:EV}{off:Nat}{l:List Nat}(hK:10000<K)(s:Bs h x b off l)(hb:HB h)(m:∀b∈l,b<256)(n:l.length<=5000):Ok (L5 K Tu x h) fun v h'=>v=.bool (decide (Q7 0 l=0))/\Ext h h':=by
 unfold Tu;simp only[L5,Aa];obtain⟨t,f,u,y,_⟩:=nW h (.cells Bh 73);rw[f,Cz y rfl,Ak Nt]
 try simp only[Aa]
 simp only[wq,Aa];obtain⟨h2,f,C,J,_⟩:=nW t (.cells Bh 73);rw[f];have a:=u.trans C;have s2:=s.ext hb a;simp only[Sx,s2.Gi,dr];refine Ok.Ao (P:=fun v h'=>v=Nk .u32 (Q7 0 l)/\Ext h2 h') ((QD (K:=K) m n (r0:=0) c_ K 0 h2 a_ (cF _) (a.hb hb) J s2).Ao fun _ _ p=>.ret p) ?_;rintro _ T ⟨rfl,M⟩;rw[show ∀k:EV->R,K1 iH (bin TT .eql 71) (Nk .u32 (Q7 0 l)) (.int .u32 0) k=k (.bool (decide (Q7 0 l=0)))from fun k=>by
  exact congrArg (fun b=>k (.bool b)) ((pY _ _).trans (eU.2 (Int.ofNat_eq_zero)))]
 exact .ret ⟨rfl,a.trans M⟩
structure Fair(L:List K2):Prop where
 sh:∀i (hi:i<L.length),L[i].kind=9->L[i].ev.kind=1->Aq4 L[i].ev.pat
 pw:∀i (hi:i<L.length) j (hj:j<i),L[i].kind=9->L[i].ev.kind=1->L[j].kind=9->L[j].ev.kind=1->¬(L[j].ev.Ai=L[i].ev.Ai/\L[j].ev.off=L[i].ev.off)
theorem nc{v:Nat}(g:h.get v=some (.cells o.cells 36))(k:EV->R):Ec (.ptr v (4+1)) h k=k (I o.ev.kind)/\Ec (.ptr v (4+2)) h k=k (I o.ev.Ai)/\Ec (.ptr v (4+3)) h k=k (I o.ev.off):=⟨Al g rfl rfl,Al g rfl rfl,Al g rfl rfl⟩
def uD(a o:K2):Prop:=a.kind=9->a.ev.kind=1->¬(a.ev.Ai=o.ev.Ai/\a.ev.off=o.ev.off)
section
variable {N:Nat}{v0:EV}{L:List K2}(lN:N<=h0.next)(gR:HB h0)(R0:iR h0 N v0 b L)
include lN gR
theorem Bl9{v5:Nat}{v9 v10 a:EV}{P:List K2}(V:iR h0 N a b P)
 (no:∀h,Ext h0 h->Q (.bool false) h) (kk:∀h,Ext h0 h->(∀j (hj:j<P.length),uD P[j] o)->Ok (E1 K G v0 (.ptr v3 0) v9 v10 (I i) h) Q):∀(f j:Nat) (h:Ab),P.length-j<f->j<=P.length->P.length<=1048576->Ext h0 h->h.get v5=some (.cells o.cells 36)->(∀k (hk:k<P.length),k<j->uD P[k] o) ->
 Ok (E0 K G f v0 (.ptr v3 0) (.ptr v5 0) v9 v10 (I i) a (I P.length) (I j) h) Q:=by
 intro f;induction f with
 | zero=>intro j h Y;omega
 | succ f Z=>
  intro j h Y hj hP p g5 T;have hb:=p.hb gR;rw[E0];simp only[I,Ac];have ae:E4 (.tuple []) false=false/\E4 (.tuple []) true=false:=⟨rfl,rfl⟩;by_cases u:j<P.length
  ·have:decide ((j:Int)<(P.length:Int))=true:=by simp;omega
   simp only[this,Aa,Xp];refine xM (V.frame (h':=h) fun i hi=>p.get i a_ id) u fun h2 U t n2=>?_
   have n:=p.trans U;have m:=U.at hb g5;have go:(∀_:P[j].kind=9,∀_:P[j].ev.kind=1,¬(P[j].ev.Ai=o.ev.Ai/\P[j].ev.off=o.ev.off))->Ok (P6 K G (E0 K G f) v0 (.ptr v3 0) (.ptr v5 0) v9 v10 (.int .i64 (i:Int)) a (.int .i64 (P.length:Int)) (.int .i64 (j:Int)) h2) Q:=fun y=>by
    simp only[P6,Ac];rw[Cn a_ a_,show((j:Nat):Int)+1=((j+1:Nat):Int) from a_];refine Z (j+1) h2 a_ a_ hP n m fun k hk af=>?_
    rcases dC k j with z|z
    ·exact T k hk z
    ·have:k=j:=a_
     subst this;exact y
   have e0:∀k:EV->R,Ec (.ptr h.next 0) h2 k=k (I P[j].kind):=fun k=>(jg t k).1
   have e1:∀k:EV->R,Ec (.ptr h.next (4+1)) h2 k=k (I P[j].ev.kind):=fun k=>(nc t k).1
   have e2:∀k:EV->R,Ec (.ptr h.next (4+2)) h2 k=k (I P[j].ev.Ai):=fun k=>(nc t k).2.1
   have e3:∀k:EV->R,Ec (.ptr h.next (4+3)) h2 k=k (I P[j].ev.off):=fun k=>(nc t k).2.2
   have f2:∀k:EV->R,Ec (.ptr v5 (4+2)) h2 k=k (I o.ev.Ai):=fun k=>(nc m k).2.1
   have f3:∀k:EV->R,Ec (.ptr v5 (4+3)) h2 k=k (I o.ev.off):=fun k=>(nc m k).2.2
   simp only[Aa,e0,I,Ac];by_cases x:P[j].kind=9
   case neg=>
    simp only[x,aA,Aa,Ac,Pt,K8,Hq];exact go fun y=>absurd y x
   simp only[x,aB,Aa,e1,I,Ac,Pt];by_cases C:P[j].ev.kind=1
   case neg=>
    simp only[C,aA,Aa,Ac,K8,Hq];exact go fun _ y=>absurd y C
   simp only[C,aB,Aa,e2,f2,I,Ac,K8];by_cases J:P[j].ev.Ai=o.ev.Ai
   case neg=>
    simp only[J,aA,Aa,Ac,Hq];exact go fun _ _ y=>J y.1
   simp only[J,aB,Aa,e3,f3,I,Ac,Hq];by_cases M:P[j].ev.off=o.ev.off
   case neg=>
    simp only[M,aA,Aa,Ac];exact go fun _ _ y=>M y.2
   simp only[M,aB,Aa,Ac];exact .ret (no _ n)
  ·have:decide ((j:Int)<(P.length:Int))=false:=by simp;omega
   simp only[this,Aa];exact kk h p fun k hk=>T k hk a_
include R0
theorem Blb(hK:2000000<K)(hL:L.length<=1048576):∀(f i:Nat) (h:Ab),L.length-i<f->i<=L.length->Ext h0 h->h.get v3=some (.cells Bh 73)->(∀j (hj:j<L.length),j<i->(L[j].kind=9->L[j].ev.kind=1->Aq4 L[j].ev.pat)/\∀k (hk:k<j),L[j].kind=9->L[j].ev.kind=1->uD L[k] L[j]) ->
 Ok (Dw K f v0 (.ptr v3 0) v0 (I L.length) (I i) h) fun v h'=>∃r:Bool,v=.bool r/\Ext h0 h'/\(r=true->Fair L):=by
 intro f;induction f with
 | zero=>intro i h hf;omega
 | succ f ih=>
  intro i h hf hi U g3 Z;have hb:=U.hb gR;rw[Dw];simp only[I,Ac];have aj:E4 (.tuple []) false=false/\E4 (.tuple []) true=false:=⟨rfl,rfl⟩;by_cases C:i<L.length
  ·have:decide ((i:Int)<(L.length:Int))=true:=by simp;omega
   simp only[this,Aa,Vx];have Rh:=R0.frame (h':=h) fun i hi=>U.get i a_ id
   refine xM Rh C fun h2 x2 V n2=>?_
   have oa:=(Rh.Mh _ (bA C)).1;have J:=U.trans x2;have M:=x2.at hb g3;have a:=x2.hb hb;have go:∀h',Ext h2 h'->(L[i].kind=9->L[i].ev.kind=1->Aq4 L[i].ev.pat)->(∀k (hk:k<i),L[i].kind=9->L[i].ev.kind=1->uD L[k] L[i])->Ok (E1 K (Dw K f) v0 (.ptr v3 0) v0 (.int .i64 (L.length:Int)) (.int .i64 (i:Int)) h') fun v h'=>∃r:Bool,v=.bool r/\Ext h0 h'/\(r=true->Fair L):=fun h' x y1 y2=>by
    simp only[E1,Ac];rw[Cn a_ a_,show((i:Nat):Int)+1=((i+1:Nat):Int) from a_];refine ih (i+1) h' a_ a_ (J.trans x) (x.at a M) fun j hj aq=>?_
    rcases dC j i with z|z
    ·exact Z j hj z
    ·have:j=i:=a_
     subst this;exact⟨y1,y2⟩
   have e0:∀k:EV->R,Ec (.ptr h.next 0) h2 k=k (I L[i].kind):=fun k=>(jg V k).1
   have e1:∀k:EV->R,Ec (.ptr h.next (4+1)) h2 k=k (I L[i].ev.kind):=fun k=>(nc V k).1
   simp only[Aa,e0,I,Ac];by_cases n:L[i].kind=9
   case neg=>
    simp only[n,aG,aB,Aa,Ac,Oo];exact go h2 (As.refl _) (fun y=>absurd y n) fun _ _ y=>absurd y n
   simp only[n,aC,aA,Aa,e1,I,Ac,Oo];by_cases t:L[i].ev.kind=1
   case neg=>
    simp only[t,aG,aB,Aa,Ac];exact go h2 (As.refl _) (fun _ y=>absurd y t) fun _ _ _ y=>absurd y t
   simp only[t,aC,aA,Aa,Ac,Wd,Au];have l3:=a _ _ M;rw[Jg l3,Cz M rfl,Ak Nt]
   try simp only[Aa,Au]
   obtain⟨⟨l,u,el⟩,ll⟩:=oa.ev;have T:l.length=64:=by rw[<-Az,<-el];exact ll
   rw[show ∀k:EV->R,Oz 64 1 (.ptr h.next (4+4)) none none none k=k (.slice h.next 8 64 64 false)from fun k=>rfl];have bs:Bs h2 (.slice h.next 8 64 64 false) h.next 8 l:=⟨64,false,_,L[i].cells,by rw[T],a_,V,rfl,by rw[K2.len oa.ev];omega,by
    have ec:L[i].cells = [I L[i].kind,I L[i].x,I L[i].y,L[i].bl,I L[i].ev.Mh,I L[i].ev.kind,I L[i].ev.Ai,I L[i].ev.off]++Be l:=by
     unfold K2.cells Jj.cells;rw[el];rfl
    rw[ec,show(8:Nat) = [I L[i].kind,I L[i].x,I L[i].y,L[i].bl,I L[i].ev.Mh,I L[i].ev.kind,I L[i].ev.Ai,I L[i].ev.off].length from rfl,dD,<-Az,cM]⟩
   have mu:=A8m (K:=K) a_ bs.lift (Dj a) u a_;unfold Tu at mu;refine Ok.bE mu (fun _ _ p=>p.2) ?_;rintro _ _ h4 ⟨rfl,_⟩ _ Y;by_cases hm:Q7 0 l=0
   ·simp only[hm,aB,Aa]
    exact .ret ⟨false,rfl,J.trans Y,fun y=>by cases y⟩
   simp only[hm,aA,Aa,Vn];have m:=J.trans Y;obtain⟨y,sy,Ry⟩:=R0.take C;rw[sy,Ry.Gi];have ay:(L.take i).length=i:=by rw[bK];omega
   refine Bl9 (K:=K) (h0:=h4) (o:=L[i]) (P:=L.take i) (by have:=m.next;omega) (m.hb gR) (Ry.frame fun k hk=>m.get k a_ id) (fun h' x=>⟨false,rfl,m.trans x,fun y=>by cases y⟩) (fun h' x pp=>?_) K 0 h4 a_ a_ a_ (As.refl _) (Y.at a V) (fun k _ hk=>absurd hk (cJ _));refine go h' (Y.trans x) (fun _ _=>⟨l,T,u,el,hm⟩) fun k hk _ _=>?_
   have:=pp k a_;rw[List.getElem_take]at this;exact this
  ·have:decide ((i:Int)<(L.length:Int))=false:=by simp;omega
   simp only[this,Aa,Kw];refine .ret ⟨true,rfl,U,fun _=>⟨fun j hj n t=>(Z j hj a_).1 n t,fun i hi j hj n t a9 a1=>(Z i hi a_).2 j hj n t a9 a1⟩⟩
theorem Bl1(hK:2000000<K)(hL:L.length<=1048576):Ok (Og K v0 h0) fun v h'=>∃r:Bool,v=.bool r/\Ext h0 h'/\(r=true->Fair L):=by
 simp only[Og,oN,Ar,Aa];unfold Tu;refine Ok.mk rfl Nt fun h2 a f k=>?_
 rw[R0.Gi];exact Blb (K:=K) lN gR R0 hK hL K 0 h2 a_ a_ a f fun j _ y=>absurd y (cJ _)
end
end
theorem Bno {g:Gm}(b:Int)(h:Ab):Ok (Rm K (gV g) (I b) h) fun v h'=>v=.bool (inG g b)/\Ext h h':=by
 simp only[Rm,gV,Aa];obtain⟨n,f,a,k,p⟩:=nW h (.cells (gL g) 23);rw[f];have m:E4 (.tuple []) false=false/\E4 (.tuple []) true=false:=⟨rfl,rfl⟩;unfold inG;simp only[I,Ac];by_cases h0:0<=b
 ·simp only[h0,aB,Aa,Ac]
  rw[Al k rfl (v:=I g.B) rfl];simp only[I,Ac,Aa,Sc,bG];exact .ret ⟨rfl,a⟩
 ·simp only[h0,aA,Aa,Ac,Sc,a8]
  exact .ret ⟨rfl,a⟩
section
theorem Ax2 {g:Gm}(s:Sm g)(z:Int)(h:Ab):Ok (De K (gV g) (I z) h) fun v h'=>v=I (Cl g z)/\Ext h h':=by
 have:=s.d0;have:=s.d1;have:=s.z0;have:=s.z1;obtain⟨u,x⟩:=Nz (a:=g.D) (b:=g.Z) (A:=8) (B:=64);by_cases m : -9223372036854775808<=z/\z<=9223372036854775807
 ·exact Hv s z m h
 have e:Cl g z = -1:=by unfold Cl;rw[aK a_]
 rw[e];simp only[De,gV,Aa,I,Ac];obtain⟨f,p,k,t,_⟩:=nW h (.cells (gL g) 23);rw[p];by_cases f:z<0
 ·simp only[f,aB,Aa,Ac,Kl]
  exact .ret ⟨rfl,k⟩
 ·have h2:g.D*g.Z<=z:=a_
  simp only[f,aA,Aa,Ac];rw[Cz t rfl,Ak (n:=6) rfl]
  try simp only[Aa]
  rw[show EV.agg (gL g)=gV g from rfl,No s,Ar];simp only[I,Ac,Kl,h2,aB,Aa];exact .ret ⟨rfl,k.Dn _⟩
theorem Fz.Bro(fz:Fz)(o:K2):(fz.op o).z=fz.z:=by unfold Fz.op;split<;>rfl
structure Lf(F:Nat->Prop)(g:Gm)(dom:Int)(O:List K2)(h0 h:Ab)(B:Cb)(X:Co)(L:List (List Nat))(fz:Fz)(i:Nat)(v:EV)(q:Nat):Prop where
 C:D6 h B X (fun j=>F j\/j=q)
 ci:CI fz L T1 X
 gg:X.S.g=g
 ev:X.S.evs<=i
 z:fz.z=fun z=>Cl g z=dom
 u:∀z o,fz.u z o->∃k,∃(hk:k<O.length),k<i/\O[k].kind=9/\O[k].ev.kind=1/\O[k].ev.Ai=z/\O[k].ev.off=o
 b:Bk h v q L
 k:Kf F h0 h
 n:h0.next<=q
theorem Lf.ext{g:Gm}{L:List (List Nat)}(l:Lf F g dom O h0 h B X L fz i v q)(x:Ext h h'):Lf F g dom O h0 h' B X L fz i v q:=
 ⟨(l.C.gN x).C,l.ci,l.gg,l.ev,l.z,l.u,l.b.frame (x.get _ (l.b.lt l.C.hb) id),l.k.trans (Ext.kf x),l.n⟩
theorem Lf.more{g:Gm}{L:List (List Nat)}(l:Lf F g dom O h0 h B X L fz i v q):Lf F g dom O h0 h B X L fz (i+1) v q:=
 ⟨l.C,l.ci,l.gg,by have:=l.ev;omega,l.z,fun z o u=>by obtain⟨k,hk,a,b⟩:=l.u z o u;exact⟨k,hk,a_,b⟩,l.b,l.k,l.n⟩
theorem Lf.lB{g:Gm}{L:List (List Nat)}(l:Lf F g dom O h0 h B X L fz i v q):(L.length:Int)=g.B:=by
 have a:=l.ci.len;have b:=l.C.map.len;have c:=l.C.sm.b0;rw[l.gg]at b c;omega
section
variable (A:Cf disp)(m_:disp 89=some m')(hK:3000000<K)(hd:31<=d){N a2:Nat}{g:Gm}(lF:∀i,i<N->F i)(l0:N<=h0.next)(gR:HB h0)(f2:F a2)(xP:h0.get a2=some (.cells (gL g) 23))(R0:iR h0 N v1 b O)(hL:O.length<=40)(fair:Fair O)
include A m_ hK hd lF l0 gR f2 xP R0 hL fair
theorem A7l(kk:∀h,Kf F h0 h->Q (.bool true) h):∀(f i:Nat) (h:Ab) (X:Co) (L:List (List Nat)) (fz:Fz) (v:EV) (q:Nat),O.length-i<f->i<=O.length->Lf F g dom O h0 h B X L fz i v q ->
 Ok (Cj (Ag TT disp K (d+1) false) (Ag TT disp K (d+1) true) K f (I dom) (.ptr a2 0) (.ptr B.c 0) v v1 (I O.length) (I i) h) Q:=by
 intro f;induction f with
 | zero=>intro i h X L fz v q hf;omega
 | succ f ih=>
  intro i h X L fz v q hf hi l;rw[Cj];simp only[I,Ac];have ca:E4 (.tuple []) false=false/\E4 (.tuple []) true=false:=⟨rfl,rfl⟩;by_cases m:i<O.length
  ·have:decide ((i:Int)<(O.length:Int))=true:=by simp;omega
   have Rh:=R0.frame (h':=h) fun j hj=>l.k.get j a_ fun y=>y (lF j hj)
   simp only[this,Aa,O6];refine xM Rh m fun h2 x2 g2 n2=>?_
   obtain⟨oa,ob,oc,od⟩:=Rh.Mh _ (bA m);have al:=fair.sh i m;have aq:=fair.pw i m;have hO:O[i]? = some O[i]:=aE m;generalize O[i]=o at oa ob oc od g2 al aq hO;have ol:=K2.len oa.ev;have U:=l.ext x2;have V:=U.C.hb;have au:=Kf.at U.k gR xP f2;have s:Sm g:=by rw[<-l.gg];exact l.C.sm
   have e0:∀k:EV->R,Ec (.ptr h.next 0) h2 k=k (I o.kind):=fun k=>(jg g2 k).1
   have o2:o.At h2:=⟨oa.row.frame fun y=>by
    have l3:=l.C.M.lt _ (.inl (.inl (lF _ (ob y))));rw[x2.get _ l3 id],oa.ev,oa.pl⟩
   have cp:D6 h2 B X (fun j=>(F j\/j=q)\/j=h.next):=(l.C.ext x2).less fun j hj=>by
    rcases hj with hj|rfl
    ·exact .inl hj
    ·exact .inr ⟨aD _,a_⟩
   have Z:∀h' Y T ah J q',Lf F g dom O h0 h' B Y T ah (i+1) J q'->Ok (Gy (Ag TT disp K (d+1) false) (Ag TT disp K (d+1) true) K (Cj (Ag TT disp K (d+1) false) (Ag TT disp K (d+1) true) K f) (.int .i64 dom) (.ptr a2 0) (.ptr B.c 0) J v1 (.int .i64 (O.length:Int)) (.int .i64 (i:Int)) h') Q:=fun h' Y T ah J q' l'=>by
    simp only[Gy,Ac];rw[Cn,show((i:Nat):Int)+1=((i+1:Nat):Int) from a_];exact ih (i+1) h' Y T ah J q' a_ a_ l'
   have go:∀h',Ext h2 h'->Bq1 fz o->Ok (J9 (Ag TT disp K (d+1) false) (Ag TT disp K (d+1) true) K (Cj (Ag TT disp K (d+1) false) (Ag TT disp K (d+1) true) K f) (.int .i64 dom) (.ptr a2 0) (.ptr B.c 0) v (.ptr h.next 0) v1 (.int .i64 (O.length:Int)) (.int .i64 (i:Int)) h') Q:=fun h' x' ok=>by
    have g2:=x'.at V g2;have U:=U.ext x';have V:=U.C.hb;have cp:D6 h' B X (fun j=>(F j\/j=q)\/j=h.next):=(cp.ext x').less fun j=>.inl
    have o2:o.At h':=⟨o2.row.frame fun y=>x'.get _ (by have l3:=l.C.M.lt _ (.inl (.inl (lF _ (ob y))));have:=x2.next;omega) id,oa.ev,oa.pl⟩;have x2:=x2.trans x';simp only[J9];rw[Cu g2 rfl (Ak ol)];refine(Bpk (K:=K) A m_ hK cp o2 oc (fun y=>.inl (.inl (lF _ (ob y)))) (by have:=l.ev;omega) od (d:=d+1) a_).Ao ?_;rintro _ a ⟨e,Y,rfl,dt,di⟩;have g3:a.get h.next=some (.cells o.cells 36):=dt.k.at V g2 (.inr rfl)
    have C3:D6 a B Y (fun j=>F j\/j=q):=dt.C.less fun j=>.inl
    have k3:Kf F h0 a:=U.k.trans (dt.k.less fun j hj=>.inl (.inl hj));have b3:Bk a v q L:=U.b.frame (dt.k.get _ (U.b.lt V) fun y=>y (.inl (.inr rfl)));have o3:o.At a:=⟨o2.row.frame fun y=>by
     have l3:=l.C.M.lt _ (.inl (.inl (lF _ (ob y))));exact dt.k.get _ (by have:=x2.next;omega) fun z=>z (.inl (.inl (lF _ (ob y)))),oa.ev,oa.pl⟩
    have p:=di.iv fz L l.ci ok;have ai:∀(h':Ab) (T:List (List Nat)) (J:EV) (q':Nat),CI (fz.op o) T T1 Y->D6 h' B Y (fun j=>F j\/j=q')->Bk h' J q' T->Kf F h0 h'->h0.next<=q'->Lf F g dom O h0 h' B Y T (fz.op o) (i+1) J q':=fun h' T J q' ci C b k n=>⟨C,ci,dt.g.trans l.gg,by have:=dt.ev;have:=l.ev;omega,by rw[Fz.Bro];exact l.z,fun z' o' u=>by
     have By:fz.u z' o'->∃k,∃(hk:k<O.length),k<i+1/\O[k].kind=9/\O[k].ev.kind=1/\O[k].ev.Ai=z'/\O[k].ev.off=o':=l.more.u z' o';unfold Fz.op at u;split at u
     next k9=>
      rcases u with u|⟨k1,rfl,rfl⟩
      ·exact By u
      ·refine⟨i,m,a_,?_⟩
       have:=(aZ.1 hO).2;rw[this];exact⟨k9,k1,rfl,rfl⟩
     ·exact By u,b,k,n⟩
    have p5:∀h' T J q',Lf F g dom O h0 h' B Y T (fz.op o) (i+1) J q'->h'.get h.next=some (.cells o.cells 36)->Ok (J7 (Ag TT disp K (d+1) false) (Ag TT disp K (d+1) true) K (Cj (Ag TT disp K (d+1) false) (Ag TT disp K (d+1) true) K f) (.int .i64 dom) (.ptr a2 0) (.ptr B.c 0) J (.ptr h.next 0) (.int .i64 e) v1 (.int .i64 (O.length:Int)) (.int .i64 (i:Int)) h') Q:=fun h' T J q' l' g'=>by
     have f0:∀k:EV->R,Ec (.ptr h.next 0) h' k=k (I o.kind):=fun k=>(jg g' k).1
     have f1:∀k:EV->R,Ec (.ptr h.next 1) h' k=k (I o.x):=fun k=>(jg g' k).2.1
     simp only[J7,Aa,f0,I,Ac];by_cases k3:o.kind=3
     ·simp only[k3,aB,Aa,f1]
      rw[Cu (Kf.at l'.k gR xP f2) rfl (Ak (n:=6) rfl),show EV.agg (gL g)=gV g from rfl];refine(Bno (K:=K) (g:=g) o.x h').Ao ?_;rintro _ h4 ⟨rfl,x4⟩;have nx:=Z _ _ _ _ _ _ (l'.ext x4);cases bn:inG g o.x with
      | true=>
       have bo:e=0:=di.r _ _ l.ci k3 (by rw[l.gg];exact bn);simp only[Gv,Aa,Ac,bo,aC,aA,G0];exact nx
      | false=>
       simp only[Gv,Aa,Ac,G0];exact nx
     ·simp only[k3,aA,Aa,Ac,Gv,G0]
      exact Z _ _ _ _ _ _ l'
    have pm:(o.kind=1\/o.kind=2)->Ok (K1 iH (bin TT .eql 38) (.int .i64 e) (.int .i64 0) fun bp=>E7 (Ag TT disp K (d+1) false) (Ag TT disp K (d+1) true) K (Cj (Ag TT disp K (d+1) false) (Ag TT disp K (d+1) true) K f) (.int .i64 dom) (.ptr a2 0) (.ptr B.c 0) v (.ptr h.next 0) (.int .i64 e) v1 (.int .i64 (O.length:Int)) (.int .i64 (i:Int)) (.bool true) bp a) Q:=fun cc=>by
     simp only[Ac];by_cases he:e=0
     ·rw[aK he]at p
      simp only[he,aB,Aa,Ac,E7]at p5⊢;rw[Cu g3 rfl (Ak ol)];refine(Bjm (K:=K) hK o3 dt.C.hb oc (fun y=>C3.M.lt _ (.inl (.inl (lF _ (ob y))))) b3 l.lB (fun y=>by rw[<-l.gg];exact di.w he y) fun y=>by rw[<-l.gg];exact di.t he y).Ao ?_;rintro w h4 ⟨q',b4,x4,bt,lq⟩;have lt:=b4.lt bt;refine p5 h4 _ w q' (ai h4 _ w q' p ((C3.ext x4).less fun j hj=>?_) b4 (k3.trans (Ext.kf x4)) (bS k3.next lq)) (x4.at dt.C.hb g3);rcases hj with hj|rfl
      ·exact .inl (.inl hj)
      ·exact .inr ⟨lq,lt⟩
     ·rw[aH he]at p
      simp only[he,aA,Aa,Ac,E7];exact p5 a L v q (ai a L v q p C3 b3 k3 l.n) g3
    have e3:∀k:EV->R,Ec (.ptr h.next 0) a k=k (I o.kind):=fun k=>(jg g3 k).1
    simp only[Aa,e3,I,Ac];by_cases k1:o.kind=1
    ·simp only[k1,aB,Aa,Ac,J8]at pm⊢
     exact pm (.inl trivial)
    simp only[k1,aA,Aa,e3,I,Ac,J8];by_cases k2:o.kind=2
    ·simp only[k2,aB,Aa,Ac]at pm⊢
     exact pm (.inr trivial)
    simp only[k2,aA,Aa,Ac,E7];rw[uC k1 k2,ite_self]at p;exact p5 a L v q (ai a L v q p C3 b3 k3 l.n) g3
   have e1:∀k:EV->R,Ec (.ptr h.next (4+1)) h2 k=k (I o.ev.kind):=fun k=>(nc g2 k).1
   have e2:∀k:EV->R,Ec (.ptr h.next (4+2)) h2 k=k (I o.ev.Ai):=fun k=>(nc g2 k).2.1
   simp only[Aa,e0,I,Ac];by_cases k9:o.kind=9
   case neg=>
    simp only[k9,aA,Aa,Ac,Jk,Gj,E6];exact go h2 (As.refl _) fun y=>absurd y k9
   simp only[k9,aB,Aa,e1,I,Ac,Jk];by_cases k4:o.ev.kind=4
   ·simp only[k4,aB,Aa,Ac,Gj,E6]
    exact Z h2 X L fz v q U.more
   simp only[k4,aA,Aa,e2];rw[Cu au rfl (Ak (n:=6) rfl),show EV.agg (gL g)=gV g from rfl];refine(Ax2 (K:=K) s o.ev.Ai h2).Ao ?_;rintro _ a ⟨rfl,x3⟩;simp only[I,Ac,Gj,Aa];by_cases kd:Cl g o.ev.Ai=dom
   case neg=>
    simp only[kd,aG,aB,Aa,Ac,E6];exact Z a X L fz v q (U.ext x3).more
   simp only[kd,aC,aA,Aa,Ac,E6];exact go a x3 fun _=>⟨k4,by rw[l.z];exact kd,fun k1=>⟨al k9 k1,fun u=>by
    obtain⟨k,hk,ki,a9,a1,az,ao⟩:=l.u _ _ u;exact aq k ki k9 k1 a9 a1 ⟨az,ao⟩⟩⟩
  ·have:decide ((i:Int)<(O.length:Int))=false:=by simp;omega
   simp only[this,Aa,Qi];refine(Bm1 (K:=K) A hK (d:=d) a_ (q:=q) (F:=fun j=>F j\/j=q) (.inr rfl) l.C l.ci l.b).Ao ?_;rintro _ h2 ⟨rfl,k2⟩;exact .ret (kk _ (l.k.trans (k2.less fun j=>.inl)))
end
end
theorem Baq(A:Cf disp)(m_:disp 89=some m')(hK:3000000<K)(hd:31<=d)(h5:∀h,Ag TT disp K (d+1) false 5 [] h=some (.bool true,h))(g:Gm)(dom:Int)(hb:HB h)(R0:iR h h.next v1 b O):
 Ok (Mm (Ag TT disp K (d+1) false) (Ag TT disp K (d+1) true) K (gV g) v1 (I dom) h) fun v h'=>v=.bool true/\∀i,i<h.next->h'.get i=h.get i:=by
 simp only[Mm,gV,Aa,h5];obtain⟨f,e_,x1,g1,n1⟩:=nW h (.cells (gL g) 23);rw[e_];have J:=x1.hb hb;simp only[O5,Aa];rw[Cz g1 rfl,Ak (n:=6) rfl]
 try simp only[Aa]
 rw[show EV.agg (gL g)=gV g from rfl];refine(ZL (K:=K) A a_ (d:=d+1) a_ g J).Ao ?_;rintro v h2 ⟨V,p,Y⟩;have R2:iR h2 h.next v1 b O:=R0.frame fun i hi=>by rw[V.get i a_ fun y=>y (show i<f.next from a_),x1.get i hi id]
 have ae:=V.at J g1 (show h.next<f.next from a_);have ao:E4 (.tuple []) false=false/\E4 (.tuple []) true=false:=⟨rfl,rfl⟩;have t2:=V.next
 have m:∀(F:Nat->Prop) (h':Ab),(∀i,i<f.next->F i)->Kf F h2 h'->∀i,i<h.next->h'.get i=h.get i:=fun F h' hF k i hi=>by
  rw[k.get i a_ fun y=>y (hF i a_),V.get i a_ fun y=>y (show i<f.next from a_),x1.get i hi id]
 have fin:∀h',Ext h2 h'->Ok (some (.bool true,h')) fun v h'=>v=.bool true/\∀i,i<h.next->h'.get i=h.get i:=fun h' x=>.ret ⟨rfl,m (fun _=>True) h' (fun _ _=>trivial) (Ext.kf x)⟩
 by_cases hy:rtB g=true/\g.D*g.Z<=64
 case neg=>
  rw[aH hy]at Y;subst Y;rw[Bgv];simp only[Aa,Ac,Gk,Ex];exact fin h2 (As.refl _)
 rw[aK hy]at Y;obtain⟨B,rfl,C2,lB⟩:=Y;rw[Bid];simp only[Aa,Ac];rw[R2.Gi];simp only[I,Ac];by_cases M:40<(O.length:Int)
 ·simp only[M,aB,Aa,Ac,Gk,Ex]
  exact fin h2 (As.refl _)
 simp only[M,aA,Aa,Ac,Gk];refine(Bl1 (K:=K) (h0:=h2) a_ p R2 a_ a_).Ao ?_;rintro _ T ⟨r,rfl,t,hf⟩;cases r with
 | false=>
  simp only[Aa,Ac,Ex];exact fin T t
 | true=>
 simp only[Aa,Ac,Ex,O7];have af:=t.hb p;have C3:=(C2.gN t).C;have R3:iR T h.next v1 b O:=R2.frame fun i hi=>t.get i a_ id
 have U:=t.at p ae;have t3:=t.next
 rw[Al U rfl (v:=.int .i64 g.B) rfl];obtain⟨h4,v4,em,b4,x4,n4⟩:=Bm3 (Qu hy.1) T;rw[em,Ar,R3.Gi];have hg:(Co.start g).S.g=g:=(We (Er g) (Ej g) (Mi.new g) (g.D*g.Z).toNat).2.1;have ag:(Co.start g).S.dr=(Mi.new g).dr:=(We (Er g) (Ej g) (Mi.new g) (g.D*g.Z).toNat).2.2;have l4:Lf (fun i=>i<f.next) g dom O T h4 B (Co.start g) (Z7 g) ⟨fun z=>Cl g z=dom,fun _ _=>False⟩ 0 v4 T.next:=⟨(C3.ext x4).less fun j hj=>by
  rcases hj with hj|rfl
  ·exact .inl hj
  ·exact .inr ⟨aD _,a_⟩,Bkb hy.1 _ fun z z' a c=>(show Cl g z=dom from a).trans (show Cl g z'=dom from c).symm,hg,by unfold Mi.evs;rw[ag];exact aD _,rfl,fun _ _ u=>u.elim,b4,Ext.kf x4,aD _⟩
 exact A7l (K:=K) (Q:=fun v h'=>v=.bool true/\∀i,i<h.next->h'.get i=h.get i) A m_ hK hd (F:=fun i=>i<f.next) (N:=h.next) (fun i hi=>by show i<f.next;omega) a_ af (show h.next<f.next from a_) U R3 a_ (hf rfl) (fun h' k=>⟨rfl,m _ h' (fun _ y=>y) (((Ext.kf t).trans k))⟩) K 0 h4 _ _ _ _ _ a_ a_ l4
end Go.Ev

namespace Go.Ev
end Go.Ev

namespace Go.Ev
open Go.Proofs
set_option maxRecDepth 100000
theorem Bh8 {ws:List (Nat × List EV)}{off o:Nat}{l:List EV}(hm:(o,l)∈ws)(a:o<=off)(h2:off-o<l.length):∃o' l',j5 ws off=some (o',l')/\(o',l')∈ws/\o'<=off/\off-o'<l'.length:=by
 induction ws with
 | nil=>cases hm
 | cons x r f=>
  obtain⟨o',l'⟩:=x;unfold j5;by_cases c:o'<=off/\off-o'<l'.length
  ·refine⟨o',l',?_,aQ ..,c.1,c.2⟩
   rw[aO c.1,Aj,show Nat.ble (Nat.succ (Nat.sub off o')) (len l')=true from aO (by rw[Ue];exact c.2),Aj]
  ·have k:Bc (Nat.ble o' off) (Nat.ble (Nat.succ (Nat.sub off o')) (len l')) false=false:=by
    cases hb:Nat.ble o' off with
    | false=>rfl
    | true=>
     rw[Aj];cases m:Nat.ble (Nat.succ (Nat.sub off o')) (len l')with
     | false=>rfl
     | true=>
      have y:=bL m;rw[Ue]at y;exact absurd ⟨bL hb,y⟩ c
   rw[k,Bo];rcases bZ.1 hm with y|y
   ·cases y;exact absurd ⟨a,h2⟩ c
   ·obtain⟨n,p,e1,e2,e3⟩:=f y
    exact⟨n,p,e1,aP _ e2,e3⟩
section
open Go.ChangeShapes Go.WideShapes Go.ChangeAt Go.RowKit Go.Deep
set_option maxRecDepth 100000
theorem Bql {P:Program}{w:World}{base:Nat}{t e:TypeId}{v:Value}(f:P.underlying t=some (.slice e))(h:Value.okWide P w .any base t v):v=.slice none 0 0\/∃a len cap,v=.slice (some a) len cap/\a.spot=none/\∃row cells,w.shape? a.block=some (row,cells):=by
 unfold Value.okWide at h;rw[f]at h;simp only at h;unfold Cell.okWide at h;rw[f]at h;simp only at h;unfold Cell.ok at h;rw[f]at h;split at h<;>first|(rename_i e;cases e;done)|skip
 all_goals first|exact .inl rfl|skip
 all_goals first|(exact h.elim)|skip
 next e=>
  cases e;exact .inr ⟨_,_,_,rfl,h.2.2.2.1,by obtain⟨row,cells,hs,_⟩:=h.2.2.2.2;exact⟨row,cells,hs⟩⟩
end
section
open Go.ChangeShapes Go.WideShapes Go.ChangeAt Go.RowKit Go.Deep
set_option maxRecDepth 100000
section
variable {P:Program}{W:World}{H:Type}{enc:TypeId × Value->H}{base b2:Nat}{sp:Nat->Bool}{hd:Bool}
end
end
section
open Go.ChangeShapes Go.WideShapes Go.ChangeAt Go.RowKit Go.Deep
set_option maxRecDepth 100000
inductive Ct where
 | int (k:IntKind)
 | bool
 | str
 | row (e:TypeId)
def ri(P:Program)(rec:TypeId->Option (List Ct)):List Field->Nat->Option (List Ct)
 | [],_=>some []
 | f::r,off=>if f.offset=off then
  match rec f.type with
  | some l=>if P.cellsOf f.type=l.length then(ri P rec r (off+l.length)).map (l ++ ·)else none
  | none=>none
  else none
def pD(P:Program):Nat->TypeId->Option (List Ct)
 | 0,_=>none
 | d+1,t=>match P.underlying t with
  | some (.int k)=>some [.int k]
  | some .bool=>some [.bool]
  | some .string=>some [.str]
  | some (.slice e)=>some [.row e]
  | some (.struct a)=>match ri P (pD P d) a.toList 0 with
   | some l=>if P.cellsOf t=l.length then some l else none
   | none=>none
  | some (.array n e)=>match pD P d e with
   | some l=>if P.cellsOf e=l.length/\P.cellsOf t=n*l.length then some (List.replicate n l).flatten else none
   | none=>none
  | _=>none
def uE(P:Program):Ct->TypeId->Prop
 | .int k,t=>P.underlying t=some (.int k)
 | .bool,t=>P.underlying t=some .bool
 | .str,t=>P.underlying t=some .string
 | .row e,t=>P.underlying t=some (.slice e)
inductive Sub {H:Type} (d:DataW H):DataW H->Prop where
 | refl:Sub d d
 | agg {x:DataW H} {l:List (DataW H)}:x∈l->Sub d x->Sub d (.agg l)
 | elem {x:DataW H} {l r:List (DataW H)}:x∈l->Sub d x->Sub d (.slice l r)
theorem QE {P:Program}{rec:TypeId->Option (List Ct)}:∀{fl:List Field} {off:Nat} {a:List Ct},ri P rec fl off=some a->∀(i:Nat) c,a[i]? = some c->∃(j:Nat) (f:Field) (l:List Ct) (r:Nat),fl[j]? = some f/\rec f.type=some l/\P.cellsOf f.type=l.length/\l[r]? = some c/\f.offset+r=off+i
 | [],off,a,h,i,c,hi=>by cases h;cases hi
 | f::fl,off,a,h,i,c,hi=>by
  unfold ri at h;split at h
  next n=>
   split at h
   next l p=>
    split at h
    next t=>
     cases k:ri P rec fl (off+l.length)with
     | none=>rw[k]at h;cases h
     | some u=>
      rw[k]at h;cases h;by_cases m:i<l.length
      ·rw[bW m]at hi
       exact⟨0,f,l,i,rfl,p,t,hi,by rw[n]⟩
      ·rw[bU a_]at hi
       obtain⟨j,f',l',r,x,h2,y,h4,C⟩:=QE k _ c hi;exact⟨j+1,f',l',r,x,h2,y,h4,a_⟩
    ·cases h
   ·cases h
  ·cases h
section
variable {P:Program}{W:World}{H:Type}{enc:TypeId × Value->H}{base:Nat}{sp:Nat->Bool}{hd:Bool}
theorem Bh7:∀(dp:Nat) {t:TypeId} {M:List Ct} {fuel:Nat} {cs:List Value} {x:DataW H × List MemPlace},pD P dp t=some M->DataW.trod enc P W base sp hd fuel t cs=some x ->
 cs.length=M.length/\∀(i:Nat) c,M[i]? = some c->∃v u C J,cs[i]? = some v/\Sub J.1 x.1/\DataW.trod enc P W base sp hd u C [v]=some J/\uE P c C:=by
 intro dp;induction dp with
 | zero=>intro t M fuel cs x h;cases h
 | succ dp ih=>
  intro t M fuel cs x p h;have one:∀{v:Value} {c:Ct},cs = [v]->M = [c]->uE P c t->cs.length=M.length/\∀(i:Nat) c,M[i]? = some c->∃v u C J,cs[i]? = some v/\Sub J.1 x.1/\DataW.trod enc P W base sp hd u C [v]=some J/\uE P c C:=fun {v c} e1 e2 e3=>by
   subst e1;subst e2;refine⟨rfl,fun i c' hi=>?_⟩;cases i with
   | zero=>cases hi;exact⟨v,fuel,t,x,rfl,.refl,h,e3⟩
   | succ i=>cases hi
  unfold pD at p;split at p
  next k hu=>
   cases p;obtain⟨n,rfl,_,_⟩:=DataW.trod_int hu h;exact one rfl rfl hu
  next hu=>
   cases p;obtain⟨b,rfl,_⟩:=DataW.trod_bool hu h;exact one rfl rfl hu
  next hu=>
   cases p;obtain⟨b,rfl,_⟩:=DataW.trod_string hu h;exact one rfl rfl hu
  next e hu=>
   cases p;rcases DataW.trod_slice hu h with⟨rfl,_⟩|⟨a,len,cap,el,rs,n,_,rfl,_⟩
   ·exact one rfl rfl hu
   ·exact one rfl rfl hu
  next fs hu=>
   split at p
   next l hl=>
    split at p
    next hlen=>
     cases p;obtain⟨xs,n,_,rfl,T,U,hf⟩:=DataW.trod_struct hu h;refine⟨by rw[T,hlen],fun i c hi=>?_⟩;obtain⟨j,f,l',r,h1,h2,h3,h4,h5⟩:=QE hl i c hi;have ad:fs[j]? = some f:=by rw[<-cK];exact h1
     have hj:j<xs.length:=by rw[U];exact(bh.1 ad).1
     have g:=hf j f ad;rw[aE hj]at g;obtain⟨a1,a2⟩:=ih h2 g;obtain⟨v,fu,C,J,b1,b2,b3,b4⟩:=a2 r c h4;refine⟨v,fu,C,J,?_,.agg (cN.2 ⟨_,bA hj,rfl⟩) b2,b3,b4⟩;have V:=(aZ.1 h4).1;rw[dX,aK (by rw[h3];exact V),cW]at b1;rw[show i=f.offset+r from a_];exact b1
    ·cases p
   ·cases p
  next n e hu=>
   split at p
   next l hl=>
    split at p
    next Y=>
     cases p;obtain⟨xs,m,_,rfl,T,U,hg⟩:=DataW.trod_array hu h;have ae:∀k,(List.replicate k l).flatten.length=k*l.length:=fun k=>by simp
     refine⟨by rw[T,Y.2,ae],fun i c hi=>?_⟩;have Z:=(aZ.1 hi).1;rw[ae]at Z;have hp:0<l.length:=Nat.pos_of_ne_zero fun y=>by rw[y]at Z;omega
     have aa:i/l.length<n:=fK (by rw[fV];exact Z);have V:i%l.length<l.length:=fU _ hp;have e1:i=i/l.length*l.length+i%l.length:=by have:=Nat.div_add_mod i l.length;rw[fV]at this;omega
     have Mh:∀(k j r:Nat),j<k->r<l.length->(List.replicate k l).flatten[j*l.length+r]? = l[r]?:=by
      intro k;induction k with
      | zero=>intro j r hj;omega
      | succ k ai=>
       intro j r hj V;rw[eF,b9];cases j with
       | zero=>rw[fT,bJ,bW V]
       | succ j=>rw[bU (by rw[fD];omega),show(j+1)*l.length+r-l.length=j*l.length+r by rw[fD];omega];exact ai j r a_ V
     rw[e1,Mh n _ _ aa V]at hi;have g:=hg _ aa;have hj:i/l.length<xs.length:=by rw[U];exact aa
     rw[aE hj]at g;obtain⟨a1,a2⟩:=ih hl g;obtain⟨v,fu,C,J,b1,b2,b3,b4⟩:=a2 _ c hi;refine⟨v,fu,C,J,?_,.agg (cN.2 ⟨_,bA hj,rfl⟩) b2,b3,b4⟩;rw[dX,aK (by rw[Y.1];exact V),cW,Y.1]at b1;rw[e1];exact b1
    ·cases p
   ·cases p
  ·cases p
def xQ(w:World)(v:Value)(n:Nat)(L:List (List Value)):Prop:=(v=.slice none 0 0/\L = [])\/∃b off cap arr e fr,v=.slice (some ⟨b,off,none⟩) L.length cap/\L.length<=cap/\w.heap[b]? = some (.cells arr e fr)/\∀(j r:Nat) (hj:j<L.length) x,r<n->L[j][r]? = some x->arr[off+(j*n+r)]? = some x
def pE(P:Program)(W:World)(enc:TypeId × Value->H)(base:Nat)(sp:Nat->Bool)(hd:Bool)(f:List Ct)(d:DataW H)(l:List Value):Prop:=
 l.length=f.length/\∀(i:Nat) c,f[i]? = some c->∃v a k m,l[i]? = some v/\Sub m.1 d/\DataW.trod enc P W base sp hd a k [v]=some m/\uE P c k
theorem Bkf {t e:TypeId}{b2 dp:Nat}{k:List Ct}{v:Value}{d:DataW H}{p:List MemPlace}(ht:P.underlying t=some (.slice e))(hc:pD P dp e=some k)(T:P.cellsOf e=k.length)
 (ho:Value.okWide P W .any base t v) (h:DataW.Trod enc P W b2 sp hd t v d p):∃L:List (List Value),xQ W v k.length L/\(∀l∈L,pE P W enc b2 sp hd k d l)/\(L = []\/∃el rs,d=.slice el rs/\el.length=L.length):=by
 rcases Bql ht ho with rfl|⟨⟨b,off,spot⟩,len,cap,rfl,m,row,cells,f⟩
 ·exact⟨[],.inl ⟨rfl,rfl⟩,fun x u=>(by cases u),.inl rfl⟩
 ·obtain⟨fuel,hf⟩:=h
  simp only at m;subst m;rcases DataW.trod_slice ht hf with⟨u,_⟩|⟨a,ag,ah,el,rs,n,_,u,U,hb,hl,hm,V,hi,_⟩
  ·cases u
  ·cases u
   cases U;unfold World.shape? at f;split at f
   next arr e' fr hw=>
    have each:∀i,∃l:List Value,i<len->pE P W enc b2 sp hd k (.slice (el.map (·.1)) (rs.map (·.1))) l/\∀r x,r<k.length->l[r]? = some x->arr[off+(i*k.length+r)]? = some x:=by
     intro i;by_cases M:i<len
     ·have g:=hi i M
      rw[T,aE a_]at g;cases J:W.cells? b2 (Addr.add ⟨b,off,none⟩ (i*k.length)) k.length with
      | none=>rw[J]at g;cases g
      | some cs=>
       rw[J]at g;have g:DataW.trod enc P W b2 sp hd n e cs=some el[i]:=g;obtain⟨a1,a2⟩:=Bh7 dp hc g;obtain⟨_,_,Y⟩:=World.cells?_some J;refine⟨cs,fun _=>⟨⟨a1,fun j c hj=>?_⟩,fun r x Z u=>?_⟩⟩
       ·obtain⟨v,fu,t',x',b1,b2,b3,b4⟩:=a2 j c hj
        exact⟨v,fu,t',x',b1,.elem (cN.2 ⟨_,bA a_,rfl⟩) b2,b3,b4⟩
       ·have:=Y r Z
        rw[u,eD,eD]at this;simp only[World.cell?,hw]at this;rw[<-Nat.add_assoc];exact this
     ·exact⟨[],fun y=>absurd y M⟩
    have F:∀i,{ l:List Value // i<len->pE P W enc b2 sp hd k (.slice (el.map (·.1)) (rs.map (·.1))) l/\∀r x,r<k.length->l[r]? = some x->arr[off+(i*k.length+r)]? = some x }:=fun i=>⟨Classical.choose (each i),Classical.choose_spec (each i)⟩
    have C:((List.range len).map fun i=>(F i).1).length=len:=by simp
    refine⟨(List.range len).map fun i=>(F i).1,.inr ⟨b,off,cap,arr,e',fr,by rw[C],by rw[C];exact hl,hw,fun j r hj x Z u=>?_⟩,fun l aa=>?_,.inr ⟨_,_,rfl,by rw[C,bT,V]⟩⟩
    ·rw[List.getElem_map,List.getElem_range]at u
     exact((F j).2 (by rw[C]at hj;exact hj)).2 r x Z u
    ·obtain⟨i,ad,rfl⟩:=cN.1 aa
     exact((F i).2 (by simpa using ad)).1
   ·cases f
end
end
section
open Go.ChangeShapes Go.WideShapes Go.ChangeAt Go.RowKit Go.Deep
set_option maxRecDepth 100000
def evV:Value->EV
 | .int k n=>.int k n
 | .bool b=>.bool b
 | .string s=>.str s
 | .slice none _ _=>.Am
 | .slice (some a) len cap=>if cap=0 then .odd a else .slice a.block a.off len cap false
 | _=>.bool false
def A5y:Loc:=⟨id,fun _=>0⟩
structure Axi(N:Nat)(V:Value):Prop where
 back:Cm A5y (evV V)=V
 ok:(evV V).ok fun i=>i<N
 one:(evV V).one=true
 pl:(evV V).plain=true/\(evV V).cells = [evV V]
structure Bin(w:World)(x:Nat × Nat × Nat):Prop where
 Mh:∃arr e fr,w.heap[x.1]? = some (.cells arr e fr)/\∀j,j<x.2.2->∃V,arr[x.2.1+j]? = some V/\Axi w.heap.size V
def iM(arr:Array Value)(o n:Nat):List EV:=(List.range n).map fun j=>evV (arr.getD (o+j) (.bool false))
def Od(w:World)(A:List (Nat × Nat × Nat))(b:Nat):List (Nat × List EV):=match w.heap[b]? with
 | some (.cells arr _ _)=>(A.filter fun x=>x.1 == b).map fun x=>(x.2.1,iM arr x.2.1 x.2.2)
 | _=>[]
def ot(w:World)(A:List (Nat × Nat × Nat))(b:Nat):Option Ds:=match w.heap[b]? with
 | some o=>match Od w A b with
  | []=>none
  | ws=>some (.view ws o)
 | none=>none
noncomputable def uF(w:World)(A:List (Nat × Nat × Nat)):Nat->Tr Ds
 | 0=>.nil
 | n+1=>(uF w A n).put n (ot w A n)
noncomputable def Ah2(w:World)(A:List (Nat × Nat × Nat)):Ab:=⟨uF w A w.heap.size,w.heap.size,w.heap.size⟩
theorem QF(w:World)(A:List (Nat × Nat × Nat)):∀n i,(uF w A n).get i=if i<n then ot w A i else none
 | 0,i=>by rw[aH a_];rfl
 | n+1,i=>by
  show((uF w A n).put n (ot w A n)).get i=_;rw[Tr.get_put,QF w A n i];by_cases h:n=i
  ·subst h;rw[aK rfl,aK a_]
  ·rw[aH h]
   by_cases h2:i<n
   ·rw[aK h2,aK a_]
   ·rw[aH h2,aH a_]
theorem QG(w:World)(A:List (Nat × Nat × Nat))(i:Nat):(Ah2 w A).get i=if i<w.heap.size then ot w A i else none:=QF w A _ i
theorem Bd4 {w:World}{A:List (Nat × Nat × Nat)}{b:Nat}{o:Ds}(h:ot w A b=some o):∃r,w.heap[b]? = some r/\o=.view (Od w A b) r/\Od w A b≠[]:=by
 unfold ot at h;split at h
 next r f=>
  split at h
  ·cases h
  next ws a=>
   cases h;exact⟨r,f,rfl,a⟩
 ·cases h
theorem rj {w:World}{A:List (Nat × Nat × Nat)}{b:Nat}{arr:Array Value}{e:TypeId}{fr:Nat × Nat}(h:w.heap[b]? = some (.cells arr e fr)):Od w A b=(A.filter fun x=>x.1 == b).map fun x=>(x.2.1,iM arr x.2.1 x.2.2):=by
 unfold Od;rw[h]
structure xR(w:World)(h:Ab):Prop where
 hok:Tg (fun i=>i<w.heap.size) h
 rep:Tt A5y h w
 hb:HB h
 next:h.next=w.heap.size
 view:∀i o,h.get i=some o->∃ws r,o=.view ws r
theorem xS {w:World}{A:List (Nat × Nat × Nat)}(U:∀x∈A,Bin w x):xR w (Ah2 w A):=by
 have cs:∀i o,(Ah2 w A).get i=some o->i<w.heap.size/\∃arr e fr,w.heap[i]? = some (.cells arr e fr)/\o=.view (Od w A i) (.cells arr e fr)/\∀x∈Od w A i,∀(j:Nat) v,x.2[j]? = some v->∃V,arr[x.1+j]? = some V/\Axi w.heap.size V/\v=evV V:=fun i o a=>by
  rw[QG]at a;split at a
  next hi=>
   obtain⟨r,f,rfl,u⟩:=Bd4 a;cases r with
   | cells arr e fr=>
    refine⟨hi,arr,e,fr,f,rfl,fun x k j v hj=>?_⟩;rw[rj f]at k;obtain⟨y,Y,rfl⟩:=cN.1 k;obtain⟨C,J⟩:=dS.1 Y;have hb:y.1=i:=by simpa using J
    obtain⟨M,e',Z,T,h2⟩:=(U y C).Mh;rw[hb,f]at T;cases T;have n:j<y.2.2:=by
     have:=(aZ.1 hj).1;unfold iM at this;simpa using this
    obtain⟨V,t,g2⟩:=h2 j n;refine⟨V,t,g2,?_⟩;unfold iM at hj;rw[bB,cB n]at hj;have hj:=fZ hj;rw[<-hj];show evV (arr.getD (y.2.1+j) (.bool false))=evV V;rw[eG,t];rfl
   | _=>exact absurd (by unfold Od;rw[f]) u
  ·cases a
 refine⟨⟨fun i hi=>hi,fun i o a=>?_⟩,⟨fun i o a=>?_,fun i j o o' _ _ e=>e⟩,fun q o a=>(cs q o a).1,rfl,fun i o a=>?_⟩
 ·obtain⟨hi,arr,e,fr,f,rfl,p⟩:=cs i o a
  refine⟨hi,fun x k=>⟨(H0 _ _).2 fun v m=>?_,dG.2 fun v m=>?_⟩⟩
  ·obtain⟨j,hj⟩:=fI.1 m
   obtain⟨V,_,g,rfl⟩:=p x k j v hj;exact g.ok
  ·obtain⟨j,hj⟩:=fI.1 m
   obtain⟨V,_,g,rfl⟩:=p x k j v hj;exact g.one
 ·obtain⟨hi,arr,e,fr,f,rfl,p⟩:=cs i o a
  refine⟨_,f,rfl,arr,e,fr,rfl,fun x k j v hj=>?_⟩;obtain⟨V,t,g,rfl⟩:=p x k j v hj;rw[t,g.back]
 ·obtain⟨hi,arr,e,fr,f,rfl,p⟩:=cs i o a
  exact⟨_,_,rfl⟩
theorem A70 {P:Program}{g:Nat}{w:World}{h:Ab}(l:xR w h){args:List EV}{vs:List Value}(t:Bp A5y args=vs)(u:EV.Tp (fun i=>i<w.heap.size) args){v:EV}{V:Value}(x:∀f,Cm f v=V){h':Ab}
 (G:Good P g args h v h') (same:∀i,i<w.heap.size->h'.get i=h.get i):Calls P g vs.toArray w fun e w'=>e=.returned V/\RowKit.Below w.heap.size w w':=by
 intro cs;obtain⟨fr,f',w',hs,a,n,hm,hwf,y⟩:=G.run _ A5y w l.hok l.rep u cs;rw[t]at hs;rw[x]at n;refine⟨.returned V,w',fr,⟨rfl,hm.os,hm.tape,hm.output,hm.size,fun k hk=>?_⟩,hs,a,n⟩;by_cases p:∃i o,h.get i=some o/\A5y.b i=k
 ·obtain⟨i,o,hi,rfl⟩:=p
  have li:=(l.hok.get i o hi).1;obtain⟨ws,r,rfl⟩:=l.view i o hi;obtain⟨M,e1,C,_⟩:=l.rep.obj i _ hi;have m:h'.get i=some (.view ws r):=by rw[same i li];exact hi
  obtain⟨T,e2,J,_⟩:=hm.rep.obj i _ m;rw[<-(hm.agree i li).1]at e2;rw[e2,e1,C,J]
 ·exact hm.kept k hk fun i o hi e=>p ⟨i,o,hi,e⟩
theorem uG(arr:Array Value)(o n:Nat):(iM arr o n).length=n:=by unfold iM;simp
theorem QH {arr:Array Value}{o n j:Nat}{V:Value}(hj:j<n)(h:arr[o+j]? = some V):(iM arr o n)[j]? = some (evV V):=by
 unfold iM;rw[bB,cB hj];show some (evV (arr.getD (o+j) (.bool false)))=_;rw[eG,h];rfl
theorem QI {w:World}{A:List (Nat × Nat × Nat)}{x:Nat × Nat × Nat}(k:x∈A){arr:Array Value}{e:TypeId}{fr:Nat × Nat}(h:w.heap[x.1]? = some (.cells arr e fr)):(Ah2 w A).get x.1=some (.view (Od w A x.1) (.cells arr e fr)):=by
 have f:x.1<w.heap.size:=(bh.1 h).1;have hm:(x.2.1,iM arr x.2.1 x.2.2)∈Od w A x.1:=by
  rw[rj h];exact cN.2 ⟨x,dS.2 ⟨k,by simp⟩,rfl⟩
 rw[QG,aK f];unfold ot;rw[h];simp only;cases m:Od w A x.1 with
 | nil=>rw[m]at hm;cases hm
 | cons a r=>rfl
theorem Bpd {w:World}{A:List (Nat × Nat × Nat)}{x:Nat × Nat × Nat}(m:x∈A){arr:Array Value}{e:TypeId}{fr:Nat × Nat}(h:w.heap[x.1]? = some (.cells arr e fr)){j:Nat}(hj:j<x.2.2){V:Value}(p:arr[x.2.1+j]? = some V)(k:EV->R):
 Ec (.ptr x.1 (x.2.1+j)) (Ah2 w A) k=k (evV V):=by
 have hm:(x.2.1,iM arr x.2.1 x.2.2)∈Od w A x.1:=by
  rw[rj h];exact cN.2 ⟨x,dS.2 ⟨m,by simp⟩,rfl⟩
 obtain⟨o',l',e1,e2,e3,e4⟩:=Bh8 (off:=x.2.1+j) hm a_ (by rw[uG];omega);rw[rj h]at e2;obtain⟨y,J,e5⟩:=cN.1 e2;cases e5;rw[uG]at e4;have t:Ly (iM arr y.2.1 y.2.2) (Nat.sub (x.2.1+j) y.2.1) 1=some [evV V]:=by
  have u:=QH (n:=y.2.2) (o:=y.2.1) (j:=x.2.1+j-y.2.1) (V:=V) e4 (by rw[show y.2.1+(x.2.1+j-y.2.1)=x.2.1+j from a_];exact p);have C:=(aZ.1 u);obtain⟨a,f⟩:=C;rw[Eg (by show x.2.1+j-y.2.1+1<=_;omega)];congr 1;show((iM arr y.2.1 y.2.2).drop (x.2.1+j-y.2.1)).take 1=_;rw[cm a,f];rfl
 show oB _ (jY ((Ah2 w A).get x.1) (x.2.1+j) 1)=_;rw[QI m h];show oB _ (match j5 (Od w A x.1) (x.2.1+j)with|some (o,l)=>Ly l (Nat.sub (x.2.1+j) o) 1|none=>none)=_;rw[e1];show oB _ (Ly (iM arr y.2.1 y.2.2) (Nat.sub (x.2.1+j) y.2.1) 1)=_;rw[t];rfl
theorem Bpg {w:World}{A:List (Nat × Nat × Nat)}{x:Nat × Nat × Nat}{arr:Array Value}{e:TypeId}{fr:Nat × Nat}(h:w.heap[x.1]? = some (.cells arr e fr)){j n:Nat}(hj:j+n<=x.2.2)(hn:0<n){l:List Value}(hl:l.length=n)(hV:∀(r:Nat) V,l[r]? = some V->arr[x.2.1+(j+r)]? = some V)(k:EV->R):
 Q4 n (.ptr x.1 (x.2.1+j)) (Ah2 w (x::A)) k=k (.agg (l.map evV)):=by
 have hv:Od w (x::A) x.1=(x.2.1,iM arr x.2.1 x.2.2)::(A.filter fun y=>y.1 == x.1).map fun y=>(y.2.1,iM arr y.2.1 y.2.2):=by
  rw[rj h,List.filter_cons_of_pos (by simp)];rfl
 have hwin:j5 (Od w (x::A) x.1) (x.2.1+j)=some (x.2.1,iM arr x.2.1 x.2.2):=by
  rw[hv];unfold j5;rw[aO (show x.2.1<=x.2.1+j from a_),Aj,show Nat.ble (Nat.succ (Nat.sub (x.2.1+j) x.2.1)) (len (iM arr x.2.1 x.2.2))=true from aO (by rw[Ue,uG];show x.2.1+j-x.2.1+1<=_;omega),Aj]
 have hc:Ly (iM arr x.2.1 x.2.2) (Nat.sub (x.2.1+j) x.2.1) n=some (l.map evV):=by
  rw[show Nat.sub (x.2.1+j) x.2.1=j by show x.2.1+j-x.2.1=_;omega,Eg (by rw[uG];exact hj)];congr 1;apply dP;intro r;by_cases hr:r<n
  ·have hlr:l[r]? = some (l[r]'(by omega)):=aE a_
   rw[dX,aK hr,cW,QH (V:=l[r]'(by omega)) a_ (hV r _ hlr),bB,hlr];rfl
  ·rw[dX,aH hr,cD (by rw[bT];omega)]
 show oB _ (jY ((Ah2 w (x::A)).get x.1) (x.2.1+j) n)=_;rw[QI (aQ ..) h];show oB _ (match j5 (Od w (x::A) x.1) (x.2.1+j)with|some (o,l)=>Ly l (Nat.sub (x.2.1+j) o) n|none=>none)=_;rw[hwin];show oB _ (Ly (iM arr x.2.1 x.2.2) (Nat.sub (x.2.1+j) x.2.1) n)=_;rw[hc];rfl
def xT(w:World)(V:Value)(L:List Int):Prop:=(L = []/\(V=.slice none 0 0\/∃a,V=.slice (some a) 0 0))\/∃b off cap arr e fr,0<cap/\V=.slice (some ⟨b,off,none⟩) L.length cap/\w.heap[b]? = some (.cells arr e fr)/\∀(j:Nat) (x:Int),L[j]? = some x->arr[off+j]? = some (.int .i64 x)
theorem xT.A5x {w:World}{V:Value}{L:List Int}(r:xT w V L):Axi w.heap.size V:=by
 rcases r with⟨_,rfl|⟨a,rfl⟩⟩|⟨b,off,cap,arr,e,fr,f,rfl,h,_⟩
 ·exact⟨rfl,trivial,rfl,rfl,rfl⟩
 ·exact⟨rfl,trivial,rfl,rfl,rfl⟩
 ·have e1:evV (.slice (some ⟨b,off,none⟩) L.length cap)=.slice b off L.length cap false:=by show(if cap=0 then EV.odd ⟨b,off,none⟩else EV.slice b off L.length cap false)=_;rw[aH a_]
  refine⟨by rw[e1];rfl,?_,by rw[e1];rfl,by rw[e1];exact⟨rfl,rfl⟩⟩;rw[e1];exact(bh.1 h).1
theorem Axi.num(N:Nat)(k:IntKind)(n:Int):Axi N (.int k n):=⟨rfl,trivial,rfl,rfl,rfl⟩
theorem Ba0 {P:Program}{W:World}{H:Type}{enc:TypeId × Value->H}{base:Nat}{hd:Bool}{t e:TypeId}{fuel:Nat}{V:Value}{x:DataW H × List MemPlace}(U:P.underlying t=some (.slice e))(he:P.underlying e=some (.int .i64))(Y:P.cellsOf e=1)
 (h:DataW.trod enc P W base (fun _=>true) hd fuel t [V]=some x):∃L:List Int,xT W V L/\(L = []\/∃el rs,x.1=.slice el rs/\el.length=L.length)/\∀x∈L,-9223372036854775808<=x/\x<=9223372036854775807:=by
 rcases open_slice1 U Y h with⟨k,_⟩|⟨a,len,cap,m,n,Vs,D,Pl,k,hb,hl,hm,u,M,hi⟩
 ·cases k
  exact⟨[],.inl ⟨rfl,.inl rfl⟩,.inl rfl,fun x k=>by cases k⟩
 ·cases k
  rw[aK rfl]at u;subst u;rcases dW m with f|f
  ·subst f
   have:len=0:=a_
   subst this;exact⟨[],.inl ⟨rfl,.inr ⟨a,rfl⟩⟩,.inl rfl,fun x k=>by cases k⟩
  ·obtain⟨b,off,spot⟩:=a
   have h0:=(hi 0 f).1;rw[show(Addr.add ⟨b,off,spot⟩ 0)=⟨b,off,spot⟩from aK rfl]at h0;unfold World.cell? at h0;split at h0
   next arr e' fr hw=>
    simp only at hw;cases spot with
    | some s=>simp at h0
    | none=>
    have each:∀i,∃y:Int,(i<m->arr[off+i]? = some (.int .i64 y))/\-9223372036854775808<=y/\y<=9223372036854775807:=by
     intro i;by_cases C:i<m
     ·obtain⟨T,h2⟩:=hi i C
      obtain⟨y,e0,_,wf⟩:=DataW.trod_int he h2;simp only[List.cons.injEq,and_true]at e0;rw[e0,eD]at T;simp only[World.cell?,hw]at T;have wf:(decide (IntKind.i64.min<=y)&&decide (y<=IntKind.i64.max))=true:=wf;rw[aX,aW,aW]at wf;exact⟨y,fun _=>by simpa using T,wf⟩
     ·exact⟨0,fun y=>absurd y C,a_,a_⟩
    have F:∀i,{ y:Int // (i<m->arr[off+i]? = some (.int .i64 y))/\-9223372036854775808<=y/\y<=9223372036854775807 }:=fun i=>⟨Classical.choose (each i),Classical.choose_spec (each i)⟩
    have p:((List.range len).map fun i=>(F i).1).length=len:=by simp
    refine⟨(List.range len).map fun i=>(F i).1,.inr ⟨b,off,m,arr,e',fr,f,by rw[p],hw,fun j y hj=>?_⟩,.inr ⟨_,_,by rw[M],by rw[p];simp⟩,fun y Z=>?_⟩
    ·have J:=(aZ.1 hj).1
     rw[p]at J;rw[bB,cB J]at hj;cases hj;exact(F j).2.1 a_
    ·obtain⟨i,_,rfl⟩:=cN.1 Z
     exact(F i).2.2
   ·cases h0
end
section
open Go.Proofs Go.ChangeShapes Go.WideShapes Go.ChangeAt Go.RowKit Go.Deep
set_option maxRecDepth 100000
def xU:List Ct:=List.replicate 4 (.int .i64)++List.replicate 64 (.int .u8)
def uH:List Ct:=[.int .i64,.int .i64,.int .i64,.row 3]++xU
theorem Bru:pD TP 8 36=some uH:=by kernel_rfl
structure pB(W:World)(l:List Value)(o:K2)(ws:List (Nat × Nat × Nat)):Prop where
 cells:l.map evV=o.cells
 win:∀x∈ws,Bin W x
 Mh:∀A,(∀x∈ws,x∈A)->o.At (Ah2 W A)
 bq:0<o.bs.length->o.bq<W.heap.size
 rx:Vp o.x
 A5x:∀V∈l,Axi W.heap.size V
section
variable {W:World}{H:Type}{enc:TypeId × Value->H}{base:Nat}{hd:Bool}
theorem rk {sp:Nat->Bool}{a:List Ct}{d:DataW H}{l:List Value}(h:pE TP W enc base sp hd a d l){i:Nat}{k:IntKind}(hi:a[i]? = some (.int k)):∃n,l[i]? = some (.int k n)/\k.min<=n/\n<=k.max:=by
 obtain⟨v,m,t,x,e1,_,e3,e4⟩:=h.2 i _ hi;obtain⟨n,f,_,wf⟩:=DataW.trod_int (show TP.underlying t=some (.int k)from e4) e3;cases f;have wf:(decide (k.min<=n)&&decide (n<=k.max))=true:=wf;rw[aX,aW,aW]at wf;exact⟨n,e1,wf⟩
theorem Bf9 {sp:Nat->Bool}{a:List Ct}{d:DataW H}{l:List Value}(h:pE TP W enc base sp hd a d l){o:Nat}(f:∀i,i<68->a[o+i]? = xU[i]?):∃e:Jj,e.Wf/\∀i,i<68->∃V,l[o+i]? = some V/\Axi W.heap.size V/\e.cells[i]? = some (evV V):=by
 have num:∀i,i<4->∃n,l[o+i]? = some (.int .i64 n):=fun i hi=>by
  obtain⟨n,e,_⟩:=rk h (i:=o+i) (k:=.i64) (by rw[f i a_];rcases i with _|_|_|_|i<;>first|rfl|omega);exact⟨n,e⟩
 have pat:∀i,∃b:Nat,b<256/\(i<64->l[o+(4+i)]? = some (.int .u8 (b:Int))):=fun i=>by
  by_cases hi:i<64
  ·obtain⟨n,e,m,h2⟩:=rk h (i:=o+(4+i)) (k:=.u8) (by
    rw[f (4+i) a_];unfold xU;rw[bU (by simp),bO,show 4+i-4=i from a_,eT,aK hi])
   have m:(0:Int)<=n:=m;have h2:n<=255:=h2;exact⟨n.toNat,a_,fun _=>by rw[e];congr 2;omega⟩
  ·exact⟨0,c_,fun y=>absurd y hi⟩
 obtain⟨n0,e0⟩:=num 0 a_;obtain⟨p,e1⟩:=num 1 a_;obtain⟨t,e2⟩:=num 2 a_;obtain⟨n3,e3⟩:=num 3 a_;have F:∀i,{ b:Nat // b<256/\(i<64->l[o+(4+i)]? = some (.int .u8 (b:Int))) }:=fun i=>⟨Classical.choose (pat i),Classical.choose_spec (pat i)⟩
 refine⟨⟨n0,p,t,n3,Be ((List.range 64).map fun i=>(F i).1)⟩,⟨⟨_,fun b hb=>by obtain⟨i,_,rfl⟩:=cN.1 hb;exact(F i).2.1,rfl⟩,by rw[Az,bT,eQ]⟩,fun i hi=>?_⟩;unfold Jj.cells;rcases dC i 4 with y|y
 ·rcases i with _|_|_|_|i
  ·exact⟨_,e0,.num _ _ _,rfl⟩
  ·exact⟨_,e1,.num _ _ _,rfl⟩
  ·exact⟨_,e2,.num _ _ _,rfl⟩
  ·exact⟨_,e3,.num _ _ _,rfl⟩
  ·omega
 ·refine⟨.int .u8 ((F (i-4)).1:Int),?_,.num _ _ _,?_⟩
  ·rw[<-(F (i-4)).2.2 a_];congr 1;omega
  ·rw[bU (by show 4<=i;exact y)]
   show(Be ((List.range 64).map fun i=>(F i).1))[i-4]? = _;unfold Be;rw[bB,bB,cB a_];rfl
theorem Bnp {d:DataW H}{l:List Value}(h:pE TP W enc base (fun _=>true) hd uH d l):∃o ws,pB W l o ws/\(o.bs = []\/∃el rs,Sub (DataW.slice el rs) d/\el.length=o.bs.length):=by
 have hl:l.length=72:=h.1;obtain⟨J,e0,_⟩:=rk h (i:=0) (k:=.i64) rfl;obtain⟨M,e1,T,U⟩:=rk h (i:=1) (k:=.i64) rfl;obtain⟨Y,e2,_⟩:=rk h (i:=2) (k:=.i64) rfl;obtain⟨V,fu,t,x,e3,Z,tr,ct⟩:=h.2 3 _ (show uH[3]? = some (.row 3)from rfl);obtain⟨bs,u,lb,rg⟩:=Ba0 (show TP.underlying t=some (.slice 3)from ct) Tryz.underlying3 (by kernel_rfl) tr;obtain⟨ev,we,C⟩:=Bf9 h (o:=4) (fun i hi=>by
  unfold uH;rw[bU (by simp)];congr 1;simp)
 have gV:=u.A5x;obtain⟨bq,ws,hw,hI,hb⟩:∃(bq:Nat) (ws:List (Nat × Nat × Nat)),(∀x∈ws,Bin W x)/\(∀A,(∀x∈ws,x∈A)->A1c (Ah2 W A) (evV V) bq bs)/\(0<bs.length->bq<W.heap.size):=by
  rcases u with⟨rfl,hV⟩|⟨b,off,cap,arr,e,fr,hc,rfl,m,f⟩
  ·exact⟨0,[],fun x f=>(by cases f),fun A _=>⟨.inl ⟨rfl,by rcases hV with rfl|⟨a,rfl⟩<;>rfl⟩⟩,fun y=>absurd y (bX _)⟩
  ·refine⟨b,[(b,off,bs.length)],fun x n=>?_,fun A p=>⟨.inr ⟨off,cap,false,?_,fun j hj k=>?_⟩⟩,fun _=>(bh.1 m).1⟩
   ·rw[aN.1 n]
    exact⟨arr,e,fr,m,fun j hj=>⟨_,f j _ (aE hj),.num _ _ _⟩⟩
   ·show(if cap=0 then EV.odd ⟨b,off,none⟩else EV.slice b off bs.length cap false)=_;rw[aH a_]
   ·exact Bpd (p _ (aN.2 rfl)) m hj (f j _ (aE hj)) k
 refine⟨⟨J,M,Y,evV V,bq,bs,ev⟩,ws,⟨?_,hw,fun A p=>⟨hI A p,we,gV.pl⟩,hb,⟨T,U⟩,fun v hv=>?_⟩,?_⟩
 ·apply dP
  intro i;unfold K2.cells;rw[bB];rcases dC i 4 with y|y
  ·rw[bW (by show i<4;exact y)]
   rcases i with _|_|_|_|i
   ·rw[e0];rfl
   ·rw[e1];rfl
   ·rw[e2];rfl
   ·rw[e3];rfl
   ·omega
  ·rw[bU (by show 4<=i;exact y)]
   rcases dC i 72 with z|z
   ·obtain⟨v,a,b,c⟩:=C (i-4) a_
    rw[show 4+(i-4)=i from a_]at a;rw[a];exact c.symm
   ·rw[cD a_,cD (by rw[Jj.Bm we];show 68<=i-4;omega)];rfl
 ·obtain⟨i,hi⟩:=fI.1 hv
  have ai:=(aZ.1 hi).1;rcases dC i 4 with y|y
  ·rcases i with _|_|_|_|i
   ·rw[e0]at hi;cases hi;exact .num _ _ _
   ·rw[e1]at hi;cases hi;exact .num _ _ _
   ·rw[e2]at hi;cases hi;exact .num _ _ _
   ·rw[e3]at hi;cases hi;exact gV
   ·omega
  ·obtain⟨v',a,b,c⟩:=C (i-4) a_
   rw[show 4+(i-4)=i from a_,hi]at a;cases a;exact b
 ·rcases lb with y|⟨el,rs,y1,y2⟩
  ·exact .inl y
  ·exact .inr ⟨el,rs,by rw[<-y1];exact Z,y2⟩
end
theorem QJ {W:World}:∀{L:List (List Value)},(∀l∈L,∃o ws,pB W l o ws/\o.bs.length<=1048576)->∃(os:List K2) (ws:List (Nat × Nat × Nat)),os.length=L.length/\(∀x∈ws,Bin W x)/\∀(j:Nat) (l:List Value) (o:K2),L[j]? = some l->os[j]? = some o->∃w',pB W l o w'/\o.bs.length<=1048576/\∀x∈w',x∈ws
 | [],_=>⟨[],[],rfl,fun x f=>(by cases f),fun j l o hj=>by cases hj⟩
 | l::L,h=>by
  obtain⟨o,w1,a,b⟩:=h l (aQ ..);obtain⟨os,ws,e,hw,hj⟩:=QJ (L:=L) fun l m=>h l (aP _ m)
  refine⟨o::os,w1++ws,by rw[bP,bP,e],fun x f=>?_,fun j l' o' k h2=>?_⟩
  ·rcases bH.1 f with y|y
   ·exact a.win x y
   ·exact hw x y
  ·cases j with
   | zero=>cases k;cases h2;exact⟨w1,a,b,fun x f=>bH.2 (.inl f)⟩
   | succ j=>
    obtain⟨w',c1,c2,c3⟩:=hj j l' o' k h2;exact⟨w',c1,c2,fun x f=>bH.2 (.inr (c3 x f))⟩
theorem Bp1 {w:World}{v:Value}{L:List (List Value)}(R:xQ w v 72 L)(hL:∀l∈L,∃o ws,pB w l o ws/\o.bs.length<=1048576):∃(h:Ab) (b:Nat) (os:List K2),xR w h/\Cm A5y (evV v)=v/\(evV v).ok (fun i=>i<w.heap.size)/\iR h w.heap.size (evV v) b os:=by
 obtain⟨os,ws,el,hw,hj⟩:=QJ hL;have mk:∀A,(∀x∈ws,x∈A)->∀o∈os,o.At (Ah2 w A)/\(0<o.bs.length->o.bq<w.heap.size)/\o.bs.length<=1048576/\Vp o.x:=fun A hA o ho=>by
  obtain⟨j,hjo⟩:=fI.1 ho;have hl:=(aZ.1 hjo).1;obtain⟨w',a,b,c⟩:=hj j _ o (aE a_) hjo;exact⟨a.Mh A fun x hx=>hA x (c x hx),a.bq,b,a.rx⟩
 rcases R with⟨rfl,rfl⟩|⟨b,off,cap,arr,e,fr,rfl,hcap,hg,hc⟩
 ·have:os = []:=dh el
  subst this;exact⟨Ah2 w ws,0,[],xS hw,rfl,trivial,⟨.inl ⟨rfl,rfl⟩,fun o ho=>by cases ho⟩⟩
 ·have hn:∀(j:Nat) (hjl:j<L.length),(L[j]).length=72/\(L[j]).map evV=(os[j]'(by omega)).cells/\∀V∈L[j],Axi w.heap.size V:=fun j hjl=>by
   obtain⟨w',a,_,_⟩:=hj j L[j] (os[j]'(by omega)) (aE hjl) (aE a_);have:=congrArg List.length a.cells;rw[bT,K2.len (a.Mh w' fun x hx=>hx).ev]at this;exact⟨this,a.cells,a.A5x⟩
  have hb:b<w.heap.size:=(bh.1 hg).1;have hx:Bin w (b,off,L.length*72):=⟨arr,e,fr,hg,fun k hk=>by
   have hk:k<L.length*72:=hk;have h1:k/72<L.length:=a_
   obtain⟨n1,_,n3⟩:=hn _ h1;have h2:k%72<(L[k/72]).length:=a_
   have:=hc (k/72) (k%72) h1 _ a_ (aE h2);rw[show k/72*72+k%72=k from a_]at this;exact⟨_,this,n3 _ (bA h2)⟩⟩
  have e1:∀c,evV (.slice (some ⟨b,off,none⟩) L.length c)=if c=0 then .odd ⟨b,off,none⟩else .slice b off L.length c false:=fun c=>rfl
  rcases dW cap with hz|hz
  ·subst hz
   have:L = []:=dh a_;subst this;have:os = []:=dh el;subst this;exact⟨Ah2 w ws,0,[],xS hw,rfl,trivial,⟨.inl ⟨rfl,rfl⟩,fun o ho=>by cases ho⟩⟩
  ·refine⟨Ah2 w ((b,off,L.length*72)::ws),b,os,xS fun x hx'=>?_,?_,?_,⟨.inr ⟨hb,off,cap,false,?_,a_,fun j hjl k=>?_⟩,mk _ fun x hx=>aP _ hx⟩⟩
   ·rcases bZ.1 hx' with y|y
    ·subst y;exact hx
    ·exact hw x y
   ·rw[e1,aH a_];rfl
   ·rw[e1,aH a_];exact hb
   ·rw[e1,aH a_,el]
   ·obtain⟨n1,n2,n3⟩:=hn j a_
    have:=Bpg (w:=w) (A:=ws) (x:=(b,off,L.length*72)) hg (j:=j*72) (n:=72) (by show j*72+72<=L.length*72;omega) c_ n1 (fun r V hV=>hc j r a_ V (by have:=(aZ.1 hV).1;omega) hV) k;rw[n2]at this;exact this
end
noncomputable section
def many:Nat:=1099511627776
def xV:Nat->Option FT:=fun _=>none
theorem QK:∀g F,xV g=some F->j9 TP g F:=fun _ _ h=>by cases h
def QL(v:EV)(r:R):Bool:=match r with|some (w,_)=>gW w v|none=>false
end
theorem Bqf:QL Tu (Ag TT xV many 60 false 24 [] ⟨.nil,0,0⟩)=true:=by kernel_rfl
theorem QM:(Bh.all fun v=>match v with | .int _ _=>true|_=>false)=true:=by kernel_rfl
theorem Bja {l:List EV}(h:(l.all fun v=>match v with | .int _ _=>true|_=>false)=true)(f g:Loc):Bp f l=Bp g l:=by
 induction l with
 | nil=>rfl
 | cons a r k=>
  rw[List.all_cons,aX]at h;simp only[Bp];rw[k h.2];cases a<;>first|rfl|(simp at h)
theorem Bns {l:List EV}(h:(l.all fun v=>match v with | .int _ _=>true|_=>false)=true)(p:Nat->Prop):EV.Tp p l/\l.all EV.one=true:=by
 induction l with
 | nil=>exact⟨trivial,rfl⟩
 | cons a r f=>
  rw[List.all_cons,aX]at h;obtain⟨i1,i2⟩:=f h.2;rw[List.all_cons,i2];cases a<;>first|exact⟨⟨trivial,i1⟩,rfl⟩|(simp at h)
theorem Bbx:j9 TP 24 A4o:=by
 intro call round K _ _ args h v h' e;have hs:=(tF vX QK many 60).1;have m:=Bqf;unfold QL at m;split at m
 next w h0 k=>
  have hw:=MF m;subst hw;obtain⟨fn,t,hb,u⟩:=(hs 24 [] _ _ _ k).fn;have n:∀f,Cm f Tu=Cm ⟨fun _=>0,fun _=>0⟩ Tu:=fun f=>by
   show Cm f (.agg Bh)=Cm _ (.agg Bh);simp only[Cm];rw[Bja QM f ⟨fun _=>0,fun _=>0⟩]
  obtain⟨x,y⟩:=PQ (P:=TP) (g:=24) (v:=Tu) n (fun p=>Bns QM p) t hb u (fun w=>PO hs.call k n w);cases args with
  | nil=>exact Sound.of x y 24 [] h v h' e
  | cons a r=>cases e
 ·cases m
theorem xW {P:Program}{disp:Nat->Option FT}(h:∀g F,disp g=some F->j9 P g F){n:Nat}{G:FT}(a:j9 P n G):∀g F,Bc (Nat.beq g n) (some G) (disp g)=some F->j9 P g F:=by
 intro g F e;rw[Bq]at e;split at e
 next hb=>cases e;rw[beq_spec hb];exact a
 ·exact h g F e
noncomputable def uI:Nat->Option FT:=fun f=>Bc (Nat.beq f 24) (some A4o) (xV f)
theorem QN:∀g F,uI g=some F->j9 TP g F:=xW QK Bbx
noncomputable def xX:FT:=fun _ _ _ args h=>@List.rec EV (fun _=>R) (some (.bool true,h)) (fun _ _ _=>none) args
theorem Bj0 {disp:Nat->Option FT}{n:Nat}(hd:∀g F,disp g=some F->j9 TP g F)(k:isTrue (Ag TT disp many 60 false n [] ⟨.nil,0,0⟩)=true):j9 TP n xX:=by
 intro call round K _ _ args h v h' e;have hs:=(tF vX hd many 60).1;obtain⟨h0,f⟩:=A6d k;obtain⟨fn,m,hb,t⟩:=(hs n [] _ _ _ f).fn;obtain⟨u,x⟩:=PQ (P:=TP) (g:=n) (v:=.bool true) (V:=.bool true) (fun _=>rfl) (fun p=>trivial) m hb t fun w=>PO hs.call f (fun _=>rfl) w
 cases args with
 | nil=>exact Sound.of u x n [] h v h' (by unfold ra;rw[cO,Aj];exact e)
 | cons a r=>cases e
theorem Bhp:isTrue (Ag TT uI many 60 false 5 [] ⟨.nil,0,0⟩)=true:=by kernel_rfl
noncomputable def xY:Nat->Option FT:=fun f=>Bc (Nat.beq f 5) (some xX) (uI f)
theorem Bgt:∀g F,xY g=some F->j9 TP g F:=xW QN (Bj0 QN Bhp)
noncomputable def rn:Nat->Option FT:=fun f=>Bc (Nat.beq f 89) (some m') (xY f)
theorem Bjb:∀g F,rn g=some F->j9 TP g F:=xW Bgt Bn0
theorem xZ {a b:Bool}(h:Bc a false b=true):a=false/\b=true:=by cases a<;>simp_all [Bq]
theorem QO:Cf rn:=by
 refine⟨fun g h=>?_,by kernel_rfl⟩;obtain⟨a,h⟩:=xZ h;obtain⟨h2,h⟩:=xZ h;obtain⟨f,_⟩:=xZ h;unfold rn xY uI;rw[a,h2,f];rfl
theorem call5 {K d:Nat}(h:Ab):Ag TT rn K (d+1) false 5 [] h=some (.bool true,h):=by
 rw[vY (show rn 5=some xX by kernel_rfl)];rfl
theorem A55(D Z S B P O:Int)(v1:Value)(dom:Int)(w:World){L:List (List Value)}(R1:xQ w v1 72 L)(f:∀l∈L,∃o ws,pB w l o ws/\o.bs.length<=1048576):
 Calls Tryz.prog 3 #[.agg #[.int .i64 D,.int .i64 Z,.int .i64 S,.int .i64 B,.int .i64 P,.int .i64 O],v1,.int .i64 dom] w fun e w'=>e=.returned (.bool true)/\RowKit.Below w.heap.size w w':=by
 obtain⟨h,b,os,a,e1,o1,k⟩:=Bp1 R1 f;obtain⟨v,h',e,rfl,same⟩:=Baq (K:=many) QO (by kernel_rfl) (by unfold many;decide) (d:=39) a_ (fun h=>call5 h) ⟨D,Z,S,B,P,O⟩ dom a.hb (O:=os) (by rw[a.next];exact k);rw[<-Abx QO c_]at e;refine A70 a (args:=[gV ⟨D,Z,S,B,P,O⟩,evV v1,I dom]) (vs:=[.agg #[.int .i64 D,.int .i64 Z,.int .i64 S,.int .i64 B,.int .i64 P,.int .i64 O],v1,.int .i64 dom]) ?_ ?_ (fun _=>rfl) ((tF vX Bjb many 41).1 3 _ _ _ _ e) (fun i hi=>same i (by rw[a.next];exact hi))
 ·show[Cm A5y (gV ⟨D,Z,S,B,P,O⟩),Cm A5y (evV v1),Cm A5y (I dom)]=_
  rw[e1];rfl
 ·exact⟨by simp[EV.Tp,EV.ok,gV,gL,I,EV.one],o1,⟨trivial,trivial⟩⟩
end Go.Ev
