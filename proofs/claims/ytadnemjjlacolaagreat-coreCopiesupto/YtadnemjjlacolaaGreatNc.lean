import Derived.Test.YtadnemjjlacolaaGreatNb
import Derived.Test.YtadnemjjlacolaaGreatCd
set_option linter.all false
namespace Go.Ev
open Go.Proofs
set_option maxRecDepth 100000
variable {X Y Z:Co}{D F:Nat->Prop}{K d j k n:Nat}{x:Me}{mt mt':Int->Int}{L:List (List Nat)}{disp:Nat->Option FT}{h:Ab}{B:Cb}
section
theorem Mvs.Bvf{E:Nat->Prop}(a:Mvs X Y D k)(h:∀b,D b↔E b):Mvs X Y E k:=by
 have:D=E:=funext fun b=>propext (h b)
 subst this;exact a
section
variable (A:Bj disp)(hK:10000<K)
include A hK
theorem Bhn(C:Cz h B X F)(c:Cc X L mt)(a:X.es[j]? = some x)(b:x.state=1)(f:1<=X.S.free)(g:X.nx<=281474976710655)(hd:23<=d):
 Ok (Ae TT disp K d false 74 [.ptr B.c 0,I j] h) fun v h'=>v=I 0/\∃Y mt',Ej h h' B X F Y/\Cc Y L mt'/\Mvs X Y (fun i=>i=j) 1/\∃y,Y.es=X.es.set j y/\y.seq=X.nx:=by
 obtain⟨e,rfl⟩:∃k,d=k+1:=⟨d-1,by omega⟩;rw[Akn A (by omega)];simp only[Ajj,Aa];rw[C.ldB];refine Ok.An (Qh (K:=K) C.sm C.map C.hb j) ?_;rintro _ h2 ⟨rfl,o⟩;have c2:=C.toE o;rw[Ait a];simp only[Aa];refine Ok.mk rfl rfl fun t p e3 _=>?_
 have c3:=c2.trans (c2.C.toE p);rw[Al e3 rfl (v:=I x.state) rfl];simp only[I,Ac];simp only[b,aD,aA,Aa];refine(Blq A hK c3.C c a b f g (d:=e) (by omega) e3).mono ?_;rintro v h4 ⟨rfl,Y,mt',c4,q,m,y⟩;exact⟨rfl,Y,mt',c3.trans c4,q,m,y⟩
omit A hK in
theorem Mvs.sq(c:Cc X L mt)(s:Sq X)(m:∃y,Y.es=X.es.set j y/\y.seq=X.nx):Sq Y:=by
 obtain⟨y,e,q⟩:=m;exact s.set c.sq e fun _=>by omega
omit hK in
theorem A67(C:Cz h B X F)(a:X.es[j]? = some x)(b:¬x.state=1)(hd:23<=d):Ok (Ae TT disp K d false 74 [.ptr B.c 0,I j] h) fun v h'=>v=I 0/\Ej h h' B X F X:=by
 obtain⟨e,rfl⟩:∃k,d=k+1:=⟨d-1,by omega⟩;rw[Akn A (by omega)];simp only[Ajj,Aa];rw[C.ldB];refine Ok.An (Qh (K:=K) C.sm C.map C.hb j) ?_;rintro _ h2 ⟨rfl,f⟩;have c2:=C.toE f;rw[Ait a];simp only[Aa];refine Ok.mk rfl rfl fun i g e3 _=>?_
 have c3:=c2.trans (c2.C.toE g);rw[Al e3 rfl (v:=I x.state) rfl];simp only[I,Ac];simp only[b,aN,aB,Aa];exact .ret ⟨rfl,c3⟩
end
structure Cln(X Y:Co)(z:Int)(n:Nat):Prop where
 len:Y.es.length=X.es.length
 Gx:∀(b:Nat) x,inB z x=false->X.es[b]? = some x->Y.es[b]? = some x
 mvd:∀(b:Nat) x,inB z x=true->X.es[b]? = some x->∃y,Y.es[b]? = some y/\y.state=1/\y.sum=x.sum/\¬y.Aj=z/\¬y.Ba=z
 nm:Y.gen=X.gen+1/\Y.ep=X.ep/\Y.nx=X.nx+n/\Y.st=X.st
 g:Y.S.g=X.S.g
 free:X.S.free-n<=Y.S.free/\(0<n->X.S.free-n+X.S.g.S<=Y.S.free)
 fr:z∈Y.S.ps (Bu X.S.g z).toNat
 cl:Y.closed z=false
 dd:∀z,Y.dead z=false
theorem Bjv {z:Int}(h:inB z x=false)(a:x.state=1):¬x.Aj=z/\¬x.Ba=z:=by
 constructor<;>intro e
 ·rw[Ap7.2 ⟨a,.inl e⟩]at h;cases h
 ·rw[Ap7.2 ⟨a,.inr e⟩]at h;cases h
theorem Cc.Br5(c:Cc X L mt)(P:Cc Y L mt'){z:Int}(H:X.closed z=true)(Q:n=(blN z X.es X.es.length).length)(m:Mvs X Y (fun i=>i∈blN z X.es X.es.length) n)(k:Ckp Y Z):Cln X Z z n:=by
 have lv:∀w:Int,X.closed w=true->(∀x∈X.es,x.state=1->inB z x=false->¬x.Aj=w/\¬x.Ba=w)->Y.dead w=true:=fun w hw o=>by
  refine Ac1.2 ⟨m.cl w hw,?_⟩;have:La Y.es w=0:=A05 fun y v t=>by
   obtain⟨b,hb⟩:=cK.1 v;have S:b<X.es.length:=by rw[<-m.len];exact(aW.1 hb).1
   have p:=aC S;rcases fN (b∈blN z X.es X.es.length)with d|d
   ·obtain⟨y',a,_,G,h4,_⟩:=m.mvd b _ d p
    rw[hb]at a;cases a;exact⟨fun e=>by (rw[e,hw]at G;cases G),fun e=>by (rw[e,hw]at h4;cases h4)⟩
   ·have M:=m.Gx b _ d p
    rw[hb]at M;cases M;refine o _ (bY p) t ?_;cases q:inB z X.es[b]with
    | false=>rfl
    | true=>exact absurd (Aug.2 ⟨_,p,q⟩) d
  unfold Ug;rw[this,ite_self]
 have dz:Y.dead z=true:=lv z H fun x _ t q=>Bjv q t
 have O:∀w,X.closed w=false->¬w=z:=fun w hw e=>by rw[e,H]at hw;cases hw
 refine⟨by rw[k.es];exact m.len,fun b x q o=>?_,fun b x q o=>?_,⟨?_,?_,?_,?_⟩,k.g.trans m.g,?_,?_,?_,k.dead⟩
 ·rw[k.es]
  refine m.Gx b x (fun hb=>?_) o;obtain⟨x',C,f⟩:=Aug.1 hb;rw[o]at C;cases C;rw[q]at f;cases f
 ·obtain⟨y,t,h2,G,h4,T,_⟩:=m.mvd b x (Aug.2 ⟨x,o,q⟩) o
  exact⟨y,by rw[k.es];exact t,h2,T,O _ G,O _ h4⟩
 ·rw[k.nm.1,m.nm.1]
 ·rw[k.nm.2.1,m.nm.2.1]
 ·rw[k.nm.2.2.1,m.nm.2.2.1]
 ·rw[k.nm.2.2.2,m.nm.2.2.2]
 ·obtain⟨f1,f2⟩:=k.free P
  have mf:=m.free;refine⟨by omega,fun hp=>?_⟩;rw[Q]at hp;obtain⟨b,hb⟩:=List.exists_mem_of_length_pos hp;obtain⟨x,o,q⟩:=Aug.1 hb;obtain⟨t,E⟩:=Ap7.1 q;obtain⟨bs,_,l⟩:=c.at o t;obtain⟨_,_,hd,_⟩:=Azg l.ok;obtain⟨_,U,V,_⟩:=Ff.1 H;have wh:X.closed x.Aj=true/\X.closed x.Ba=true:=by
   rcases l.wh with⟨w1,w2⟩|w
   ·rcases E with e|e
    ·exact absurd (e▸w1) U
    ·exact absurd (e▸w2) V
   ·exact w
  have both:Y.dead x.Aj=true/\Y.dead x.Ba=true:=by
   rcases E with e|e
   ·refine⟨by rw[e];exact dz,lv _ wh.2 fun y v a f=>?_⟩
    obtain⟨W,u⟩:=cK.1 v;obtain⟨J,_,l'⟩:=c.at u a;have no:=Bjv f a;refine⟨fun e'=>no.2 ?_,fun e'=>no.1 ?_⟩
    ·rw[<-l'.m1,e',l.m2];exact e
    ·rw[<-l'.m2,e',l.m2];exact e
   ·refine⟨lv _ wh.1 fun y v a f=>?_,by rw[e];exact dz⟩
    obtain⟨W,u⟩:=cK.1 v;obtain⟨J,_,l'⟩:=c.at u a;have no:=Bjv f a;refine⟨fun e'=>no.2 ?_,fun e'=>no.1 ?_⟩
    ·rw[<-l'.m1,e',l.m1];exact e
    ·rw[<-l'.m2,e',l.m1];exact e
  have:=f2 _ _ both.1 both.2 (by rw[m.g];exact hd);rw[m.g]at this;omega
 ·have:=k.fr z dz
  rw[m.g]at this;exact this
 ·rw[k.cl,dz,dR,cS]
section
variable (A:Bj disp)(hK:10000<K)
include A hK
theorem A9e(c:Cc X L mt)(sq:Sq X){z:Int}(P:X.closed z=true)(hd:23<=d){s:EV}{q:Nat}{N:List Nat}(g:N=blN z X.es X.es.length)(Q:N.length<=256)(T:(N.length:Int)<=X.S.free)(hg:X.gen<281474976710655)(hx:X.nx+N.length<=281474976710655)(U:0<N.length->F q):∀(f i:Nat) (e:Ab) (Y:Co) (mt':Int->Int),N.length-i<f->i<=N.length->Ej h e B X F Y->Cc Y L mt'->Sq Y->Mvs X Y (fun b=>b∈N.take i) i->Cs e s q 3 1 N.length (N.map nI) ->
 Ok (N8 (Ae TT disp K d false) (Ae TT disp K d true) K f (.ptr B.c 0) s (I N.length) (I i) e) fun v h'=>v=I 0/\∃Z mt',Ej h h' B X F Z/\Cc Z L mt'/\Sq Z/\Cln X Z z N.length:=by
 intro f;induction f with
 | zero=>intro i e Y mt' T;omega
 | succ f V=>
  intro i e Y mt' W hi c1 o M m row;rw[N8];simp only[I,Ac];have mn:=m.nm;by_cases a:i<N.length
  ·have:decide ((i:Int)<(N.length:Int))=true:=by simp;omega
   simp only[this,Aa,Akr];have ix:=row.ix a .i64;rw[ix,bZ,Al (row.block (by omega)) rfl (v:=I (N[i]:Int)) (by rw[bG,aC a];rfl)];have nd:N.Nodup:=by rw[g];exact Bbh _ _ _
   have ni:N[i] ∉ N.take i:=by
    intro hm;obtain⟨k,hk,p⟩:=List.mem_take_iff_getElem.1 hm;exact(List.pairwise_iff_getElem.1 nd) k i (by omega) a (by omega) p
   have t:∀b,b∈N->b∈blN z X.es X.es.length:=fun b hb=>by rw[<-g];exact hb
   obtain⟨x,u,E⟩:=Aug.1 (t _ (av a));have G:=m.Gx _ x ni u;have mf:=m.free;refine Ok.An (Bhn A hK c1.C o G (Ap7.1 E).1 (by omega) (by omega) hd) ?_;rintro _ h2 ⟨rfl,Z,H,c2,J,m2,y2⟩;have bl:=Q;simp only[I,Ac,aD,aA,Aa,Aj2];rw[Cj,show((i:Nat):Int)+1=((i+1:Nat):Int) by omega];refine V (i+1) h2 Z H (by omega) (by omega) (c1.trans c2) J (Mvs.sq o M y2) ((m.trans m2).Bvf fun b=>?_) (row.frame fun y=>c2.k.get _ (c1.hb _ _ (row.block y)) fun w=>w (U y));rw[eh,aC a,bO];simp
  ·have:decide ((i:Int)<(N.length:Int))=false:=by simp;omega
   simp only[this,Aa,Ajf];have ei:i=N.length:=by omega
   subst ei;rw[cN]at m;refine Ok.An (Apu A hK c1.C o (by omega) (by omega) (d:=d) (by omega)) ?_;rintro _ h2 ⟨rfl,Z,c2,J,O⟩;refine .ret ⟨rfl,Z,mt',c1.trans c2,J,M.es O.es,?_⟩;exact c.Br5 o P (by rw[g]) (by rw[g]at m⊢;exact m) O
theorem A5g(C:Cz h B X F)(c:Cc X L mt)(sq:Sq X)(hd:24<=d){z:Int}(g:X.closed z=true)(G:Rng z)(m:((blN z X.es X.es.length).length:Int)<=X.S.free)(H:X.gen<281474976710655)(o:X.nx+(blN z X.es X.es.length).length<=281474976710655):Ok (Ae TT disp K d false 27 [.ptr B.c 0,I z] h) fun v h'=>v=I 0/\∃Y mt',Ej h h' B X F Y/\Cc Y L mt'/\Sq Y/\Cln X Y z (blN z X.es X.es.length).length:=by
 obtain⟨e,rfl⟩:∃k,d=k+1:=⟨d-1,by omega⟩;rw[Aip A (by omega)];simp only[Ag9,Aa];refine Ok.An (Aa0 A hK C (d:=e) (by omega) G) ?_;rintro _ h2 ⟨rfl,J⟩;have c2:=C.rd J;rw[g];simp only[Aa,Akw];refine Ok.An (Bml A hK c2.C (d:=e) (by omega) z) ?_;rintro v p ⟨u,q,row,lq⟩;have bl:=Bo7 z X.es X.es.length;have el:=C.A9v;have M:blN z X.es X.es.length=blN z X.es X.es.length:=rfl;revert M;generalize a:blN z X.es X.es.length=N at row lq bl m o⊢;intro _;rw[row.F3];have O:Cz p B X (fun i=>F i\/(0<N.length/\i=q)):=by
  obtain⟨⟨T,k,t⟩,_⟩:=u;refine(c2.C.kp k).less fun i f=>?_
  rcases f with f|⟨E,rfl⟩
  ·exact .inl f
  ·exact .inr ⟨lq E,(k.chg.hb c2.C.hb) _ _ (row.block E)⟩
 have:=A9e A hK (F:=fun i=>F i\/(0<N.length/\i=q)) c sq g (d:=e) (by omega) (s:=v) (q:=q) (N:=N) a.symm (by omega) m H o (fun y=>.inr ⟨y,rfl⟩) K 0 p X mt (by omega) (by omega) (Ej.refl O) c sq ((Mvs.refl X).Bvf fun b=>by simp) row;refine Ok.mono this ?_;rintro _ h4 ⟨rfl,Y,mt',c4,P,Q,k⟩;have c4:=c4.less (F:=F) fun i=>.inl
 exact⟨rfl,Y,mt',(c2.trans (c2.C.rd u)).trans c4,P,Q,k⟩
theorem Bbu(C:Cz h B X F)(hd:24<=d){z:Int}(a:X.closed z=false)(b:Rng z):Ok (Ae TT disp K d false 27 [.ptr B.c 0,I z] h) fun v h'=>v=I 13/\Ej h h' B X F X:=by
 obtain⟨e,rfl⟩:∃k,d=k+1:=⟨d-1,by omega⟩;rw[Aip A (by omega)];simp only[Ag9,Aa];refine Ok.An (Aa0 A hK C (d:=e) (by omega) b) ?_;rintro _ h2 ⟨rfl,f⟩;have c2:=C.rd f;rw[a];simp only[Aa];exact .ret ⟨rfl,c2⟩
end
end
section
theorem A75:X.K5 (n+1)=if X.Aw5 n=true/\(X.K5 n = -1\/X.live n<X.live (X.K5 n))then(n:Int)else X.K5 n:=rfl
theorem Bjg:∀n:Nat,X.K5 n = -1->∀z:Nat,z<n->X.Aw5 z=false
 | 0,_,z,a=>by omega
 | n+1,h,z,a=>by
  rw[A75]at h;split at h
  ·omega
  ·rename_i b
   rcases cZ z n with y|y
   ·exact Bjg n h z y
   ·have:z=n:=by omega
    subst this;cases e:X.Aw5 z with
    | false=>rfl
    | true=>exact absurd ⟨e,.inl h⟩ b
theorem Bco:∀n:Nat,¬X.K5 n = -1->X.Aw5 (X.K5 n)=true
 | 0,h=>absurd rfl h
 | n+1,h=>by
  rw[A75]at h⊢;split
  ·rename_i a;exact a.1
  ·rename_i a
   rw[aF a]at h;exact Bco n h
theorem Bn2 {g:Gm}(a:rtB g=true):1<=g.segments/\g.De+8<=g.D*g.Z:=by
 have s:=Nw a;have:=s.d0;have:=s.z0;have:=s.s0;have:=s.b0;have:=s.p0;have i:2*g.B<=g.S*g.segments:=by
  unfold rtB at a;simp only[aR,aQ]at a;exact a.2.2
 have b:1<=g.segments:=by
  rcases gJ 0 g.segments with y|y
  ·exact y
  ·have:=dP (show 0<=g.S by omega) (show 0<=-g.segments by omega)
   rw[Int.mul_neg]at this;omega
 refine⟨b,?_⟩;have e:0<=g.D*g.P:=dP (by omega) (by omega);have e1:g.D*(g.Z-g.P-2)=g.D*g.Z-g.D*g.P-2*g.D:=by rw[Int.mul_sub,Int.mul_sub];omega
 unfold Gm.segments at b;have f:g.least<=g.D*(g.Z-g.P-2)-2*g.De+1:=by unfold Gm.least;omega
 unfold Gm.De at *;omega
theorem Cc.rng(C:Cc X L mt){z:Int}(e:X.closed z=true):0<=z/\z<X.S.g.D*X.S.g.Z:=by
 have:=(Ff.1 e).1;rcases Ko C.c.sm z with y|⟨_,_,_,a,b⟩
 ·omega
 ·exact⟨a,b⟩
theorem Cc.Ug(C:Cc X L mt){z:Int}(a:X.closed z=true):Go.Ev.Ug X.S.g X.es z=La X.es z:=by
 unfold Go.Ev.Ug;rw[aG (C.rng a)]
theorem Cc.whole(C:Cc X L mt)(z:Int):Ag8 X.S z X.es=true:=by
 unfold Ag8;rw[dM];intro x _;have:Ayp X.S x=true:=by
  unfold Ayp;rw[C.F0,C.F0];rfl
 rw[this,Bool.or_true]
theorem Cc.full(C:Cc X L mt)(f:X.K5 (X.S.g.D*X.S.g.Z).toNat = -1){z:Int}(e:X.closed z=true):X.S.g.S<2*La X.es z:=by
 obtain⟨a,b⟩:=C.rng e;have h:=Bjg _ f z.toNat (by omega);rw[show((z.toNat:Nat):Int)=z by omega]at h;unfold Co.Aw5 Co.live at h;rw[e,C.whole,C.Ug e,Bool.and_true,bF,cY]at h;omega
theorem Cc.Bt0(C:Cc X L mt)(a:¬X.K5 (X.S.g.D*X.S.g.Z).toNat = -1):X.closed (X.K5 (X.S.g.D*X.S.g.Z).toNat)=true/\2*La X.es (X.K5 (X.S.g.D*X.S.g.Z).toNat)<=X.S.g.S:=by
 have h:=Bco _ a;unfold Co.Aw5 Co.live at h;simp only[aR,aQ]at h;refine⟨h.1,?_⟩;rw[<-C.Ug h.1];exact h.2.1
theorem Cc.Btr(C:Cc X L mt)(p:∀z,X.closed z=true->X.S.g.S<2*La X.es z):X.S.g.De<=F7 X.S.ps X.S.g.D.toNat:=by
 rcases gJ (F7 X.S.ps X.S.g.D.toNat) X.S.g.De with y|y
 ·have d0:=C.c.sm.d0
  refine(Bb9 C.c.rt (closed:=X.closed) (es:=X.es) (ps:=X.S.ps) (ar:=[X.cur 0,X.By 0,X.cur 1,X.By 1,X.cur 2,X.By 2]) (op:=[X.S.a,X.S.b]) (by simp) (by simp) (fun d hd=>?_) (fun z q=>?_) p C.lb y).elim
  ·have f:=C.ar 0 (by omega);have m:=C.ar 1 (by omega);have o:=C.ar 2 (by omega)
   simp only[eP,List.filter_nil,f.1,f.2.1,m.1,m.2.1,o.1,o.2.1];rcases cZ d 3 with y|y
   ·rcases(by omega:d=0\/d=1\/d=2)with rfl|rfl|rfl<;>simp<;>omega
   ·have e:∀k:Nat,k<3->decide (¬((k:Int)=(d:Int)))=true:=fun k t=>by simp;omega
    have e0:=e 0 (by omega);have e1:=e 1 (by omega);have e2:=e 2 (by omega);rw[e0,e1,e2];simp;omega
  ·rcases C.cover q with y|y|⟨i,u,y⟩|y|y
   ·exact .inl y
   ·exact .inr (.inl y)
   ·refine .inr (.inr (.inl ?_))
    rcases(by omega:i=0\/i=1\/i=2)with rfl|rfl|rfl<;>rcases y with y|y<;>simp[y]
   ·exact .inr (.inr (.inr (by simp[y])))
   ·exact .inr (.inr (.inr (by simp[y])))
 ·exact y
theorem Cc.A3q(C:Cc X L mt):X.S.g.S*F7 X.S.ps X.S.g.D.toNat<=X.S.free/\X.S.free<=X.S.g.S*F7 X.S.ps X.S.g.D.toNat+X.S.g.S:=by
 have:=C.c.Ayf;unfold Mi.free;omega
end
section
def Co.An4(X:Co):Nat->Bool
 | 0=>false
 | n+1=>X.An4 n||X.dead n
theorem Bjt:∀n:Nat,X.An4 n=false->∀z:Nat,z<n->X.dead z=false
 | 0,_,z,a=>by omega
 | n+1,h,z,a=>by
  unfold Co.An4 at h;rw[fP]at h;rcases cZ z n with y|y
  ·exact Bjt n h.1 z y
  ·have:z=n:=by omega
   subst this;exact h.2
theorem Bbv:∀n z:Nat,z<n->X.dead z=true->X.An4 n=true
 | 0,z,a,_=>by omega
 | n+1,z,a,h=>by
  unfold Co.An4;rw[dT];rcases cZ z n with y|y
  ·exact .inl (Bbv n z y h)
  ·have:z=n:=by omega
   subst this;exact .inr h
section
theorem Bct(A:Bj disp)(hK:10000<K)(y:X.S.g.D*X.S.g.Z=n)(hd:9<=d):∀(f i:Nat) (h:Ab),n-i<f->i<=n->X.An4 i=false->Cz h B X F ->
 Ok (Pw (Ae TT disp K d false) (Ae TT disp K d true) K f (.ptr B.c 0) (I n) (I i) h) fun v h'=>v=.bool (X.An4 n)/\Qt F h h':=by
 intro f;induction f with
 | zero=>intro i h q;omega
 | succ f t=>
  intro i h q E p C;have bd:=C.sm.Ag0;rw[Pw];simp only[I,Ac];by_cases m:i<n
  ·have:decide ((i:Int)<(n:Int))=true:=by simp;omega
   simp only[this,Aa,Alw];refine(Bjl A hK C hd (z:=i) ⟨by omega,by omega⟩).An ?_;rintro _ h2 ⟨rfl,o⟩;cases b:X.dead i with
   | true=>
    simp only[Aa];exact .ret ⟨by rw[Bbv n i m b],o⟩
   | false=>
    simp only[Aa,Anh,Ac];rw[Cj,show((i:Nat):Int)+1=((i+1:Nat):Int) by omega];refine(t (i+1) h2 (by omega) (by omega) (by unfold Co.An4;rw[p,b];rfl) (C.rd o).C).mono ?_;rintro v G ⟨a,u⟩;exact⟨a,o.trans u⟩
  ·have:decide ((i:Int)<(n:Int))=false:=by simp;omega
   have e:i=n:=by omega
   subst e;simp only[this,Aa,Amh];exact .ret ⟨by rw[p],Qt.refl C.hb⟩
theorem Bt8(A:Bj disp)(hK:10000<K)(C:Cz h B X F)(hd:10<=d):Ok (Ae TT disp K d false 81 [.ptr B.c 0] h) fun v h'=>v=.bool (X.An4 (X.S.g.D*X.S.g.Z).toNat)/\Qt F h h':=by
 obtain⟨e,rfl⟩:∃k,d=k+1:=⟨d-1,by omega⟩;rw[Axn A (by omega)];simp only[Asr,Aa];rw[C.ldM];refine Aoq A C fun h2 b=>?_
 have bd:=C.sm.Ag0;obtain⟨n,f⟩:=aY (show 0<=X.S.g.D*X.S.g.Z by omega);rw[f,aZ];refine(Bct A hK f (d:=e) (by omega) K 0 h2 (by omega) (by omega) rfl (C.toE b).C).mono ?_;rintro v m ⟨a,i⟩;exact⟨a,(Qt.ext b C.hb).trans i⟩
structure Tdy(X Y:Co)(k:Nat):Prop where
 len:Y.es.length=X.es.length
 gen:X.gen<=Y.gen/\Y.gen<=X.gen+k
 nx:X.nx<=Y.nx/\Y.nx<=X.nx+64*k
 nm:Y.ep=X.ep/\Y.st=X.st
 g:Y.S.g=X.S.g
 free:X.S.free<=Y.S.free
theorem Tdy.refl(X:Co):Tdy X X 0:=⟨rfl,⟨cb _,by simp⟩,⟨cb _,by simp⟩,⟨rfl,rfl⟩,rfl,cb _⟩
theorem Tdy.trans{l:Nat}(a:Tdy X Y k)(b:Tdy Y Z l):Tdy X Z (k+l):=by
 have e:=a.gen;have b1:=b.gen;have f:=a.nx;have b2:=b.nx;have i:=a.free;have b3:=b.free;exact⟨b.len.trans a.len,by omega,by omega,⟨b.nm.1.trans a.nm.1,b.nm.2.trans a.nm.2⟩,b.g.trans a.g,by omega⟩
theorem Tdy.more{l:Nat}(a:Tdy X Y k)(h:k<=l):Tdy X Y l:=by
 have b:=a.gen;have e:=a.nx;exact⟨a.len,by omega,by omega,a.nm,a.g,a.free⟩
theorem Ckp.tdy(k:Ckp X Y)(c:Cc X L mt):Tdy X Y 1:=by
 have:=k.nm;exact⟨by rw[k.es],by omega,by omega,⟨k.nm.2.1,k.nm.2.2.2⟩,k.g,(k.free c).1⟩
theorem Cln.tdy{z:Int}(k:Cln X Y z n)(c:Cc X L mt)(a:(n:Int)<=X.S.g.S):Tdy X Y 1:=by
 have:=k.nm;have:=c.c.sm.s1;have:=c.c.sm.s0;have f:=k.free;refine⟨k.len,by omega,by omega,⟨k.nm.2.1,k.nm.2.2.2⟩,k.g,?_⟩;rcases dI n with y|y
 ·subst y;omega
 ·have:=f.2 y;omega
def Idl(X:Co):Prop:=X.An4 (X.S.g.D*X.S.g.Z).toNat=false/\X.K5 (X.S.g.D*X.S.g.Z).toNat = -1
theorem Bil(h:∀z,X.dead z=false):∀n,X.An4 n=false
 | 0=>rfl
 | n+1=>by unfold Co.An4;rw[Bil h n,h];rfl
theorem Cc.An4(c:Cc X L mt)(h:X.An4 (X.S.g.D*X.S.g.Z).toNat=false)(z:Int):X.dead z=false:=by
 cases hd:X.dead z with
 | false=>rfl
 | true=>
  obtain⟨a,b⟩:=c.rng (Ac1.1 hd).1;have:=Bjt _ h z.toNat (by omega);rw[show((z.toNat:Nat):Int)=z by omega,hd]at this;exact this
variable (A:Bj disp)(hK:10000<K)
include A hK
theorem Bm2(C:Cz h B X F)(c:Cc X L mt)(sq:Sq X)(G:X.S.g.S<=X.S.free)(i:X.gen<281474976710655)(H:X.nx+64<=281474976710655)(hd:25<=d):Ok (Ae TT disp K d false 34 [.ptr B.c 0] h) fun v h'=>∃(b:Bool) (Y:Co) (mt':Int->Int),v=.tuple [.bool b,I 0]/\Ej h h' B X F Y/\Cc Y L mt'/\Sq Y /\
 ((b=false/\Y=X/\Idl X)\/(b=true/\¬Idl X/\Tdy X Y 1/\(∀z,Y.dead z=false)/\(X.An4 (X.S.g.D*X.S.g.Z).toNat=false->2*X.S.free+X.S.g.S<=2*Y.S.free))):=by
 obtain⟨e,rfl⟩:∃k,d=k+1:=⟨d-1,by omega⟩;rw[Aya A (by omega)];simp only[Aue,Aa];refine Ok.An (Bt8 A hK C (d:=e) (by omega)) ?_;rintro _ h2 ⟨rfl,p⟩;have c2:=C.rd p;unfold Idl;cases q:X.An4 (X.S.g.D*X.S.g.Z).toNat with
 | true=>
  simp only[Aa];refine Ok.An (Apu A hK c2.C c i (by omega) (d:=e) (by omega)) ?_;rintro _ t ⟨rfl,Y,c3,a,k⟩;exact .ret ⟨true,Y,mt,rfl,c2.trans c3,a,sq.es k.es,.inr ⟨rfl,(fun y=>by cases y.1),k.tdy c,k.dead,fun y=>by cases y⟩⟩
 | false=>
  simp only[Aa,Alu];refine Ok.An (A7x A hK c2.C (d:=e) (by omega)) ?_;rintro _ t ⟨rfl,u⟩;have c3:=c2.trans (c2.C.rd u);have m:=Bm3 A hK C (d:=0);have o:=fun y=>c.Bt0 y
  generalize X.K5 (X.S.g.D*X.S.g.Z).toNat=z at m o⊢;simp only[I,Ac];by_cases f:z = -1
  ·simp only[f,aB,Aa]
   exact .ret ⟨false,X,mt,rfl,c3,c,sq,.inl ⟨by trivial,by trivial,by trivial,by trivial⟩⟩
  ·obtain⟨v1,v2⟩:=o f
   have J:=Bsd z X.es;have s0:=c.c.sm.s0;have s1:=c.c.sm.s1;have dz:=c.An4 q z;simp only[f,aA,Aa,Al7];refine Ok.An (A5g A hK c3.C c sq (d:=e) (by omega) v1 m (by omega) i (by omega)) ?_;rintro _ h4 ⟨rfl,Y,mt',c4,a,E,k⟩;refine .ret ⟨true,Y,mt',rfl,c3.trans c4,a,E,.inr ⟨rfl,(fun y=>y.2),k.tdy c (by omega),k.dd,fun _=>?_⟩⟩;have np:0<(blN z X.es X.es.length).length:=by
    rcases dI (blN z X.es X.es.length).length with y|y
    ·have:X.dead z=true:=Ac1.2 ⟨v1,by rw[c.Ug v1];omega⟩
     rw[this]at dz;cases dz
    ·exact y
   have:=k.free.2 np;omega
end
end
section
noncomputable def Co.prs(X:Co):Int:=F7 X.S.ps X.S.g.D.toNat
section
variable (A:Bj disp)(hK:10000<K)
include hK in
theorem A5n(C:Cz h B X F){k:EV->Ab->R}{Q:EV->Ab->Prop}(a:∀h',Ext h h'->Ok (k (.int .i64 X.prs) h') Q):Ok (An (Ce K (.ptr B.m 0) h) fun v h=>An (Hd K v h) k) Q:=
 Bke hK C.M C.hb fun h' x=>a h' x
include A hK
omit A in
theorem Blb {a:Ab}(c1:Ej h a B X F Y)(hp:¬Y.prs=0)(n:Int)(d:Nat):Ok (P0 (Ae TT disp K d false) (Ae TT disp K d true) K (.ptr B.c 0) (I n) a) fun v h'=>v=I 0/\Ej h h' B X F Y:=by
 simp only[P0,Aa];rw[c1.C.ldM];refine A5n hK c1.C fun h2 b=>?_
 have c2:=c1.trans (c1.C.toE b);have e:Cg (.tuple []) false=false/\Cg (.tuple []) true=false:=⟨rfl,rfl⟩;simp only[I,Ac,hp,aA,Aa,Am5,Al8];exact .ret ⟨rfl,c2⟩
structure Rm(X Y:Co)(n:Int):Prop where
 t:Tdy X Y 1024
 same:n<=X.prs->Y=X
 res:n<=X.S.g.De->n<=Y.prs
omit A hK in
theorem Cc.prs(c:Cc X L mt):X.S.g.S*X.prs<=X.S.free/\X.S.free<=X.S.g.S*X.prs+X.S.g.S:=c.A3q
omit A hK in
theorem Cc.Bnf(c:Cc X L mt){k:Int}(h:X.S.g.S*k+X.S.g.S<X.S.free+1):k<=X.prs:=by
 have p:=c.prs.2;have s0:=c.c.sm.s0;rcases gJ X.prs k with y|y
 ·have:X.S.g.S*(X.prs+1)<=X.S.g.S*k:=bT y (by omega)
  rw[Int.mul_add,Int.mul_one]at this;omega
 ·exact y
theorem Bb4(c:Cc X L mt)(P:3*X.S.g.S<=X.S.free)(hg:X.gen+1024<=281474976710655)(hx:X.nx+65600<=281474976710655)(hd:25<=d){n:Int}{N:Nat}(Q:n<=X.S.g.D*X.S.g.Z)(T:2*(X.S.g.D*X.S.g.Z)=N)(U:N<=1024)(np:¬n<=X.prs):∀(f i:Nat) (p:Ab) (Y:Co) (mt':Int->Int),N-i<f->i<=N->Ej h p B X F Y->Cc Y L mt'->Sq Y->Tdy X Y i->(0<i->Y.An4 (X.S.g.D*X.S.g.Z).toNat=false/\2*X.S.free+((i:Int)-1)*X.S.g.S<=2*Y.S.free) ->
 Ok (Mc (Ae TT disp K d false) (Ae TT disp K d true) K f (.ptr B.c 0) (I n) (I N) (I i) p) fun v h'=>v=I 0/\∃Z mt',Ej h h' B X F Z/\Cc Z L mt'/\Sq Z/\Rm X Z n:=by
 have s0:=c.c.sm.s0;intro f;induction f with
 | zero=>intro i p Y mt' P;omega
 | succ f V=>
  intro i p Y mt' W hi c1 a E t M;rw[Mc];have o:=t.g;have tf:=t.free;have p2:2<=Y.prs:=a.Bnf (by rw[o];omega);have fin:∀(h2:Ab),Ej h h2 B X F Y->(n<=X.S.g.De->n<=Y.prs)->Ok (P0 (Ae TT disp K d false) (Ae TT disp K d true) K (.ptr B.c 0) (I n) h2) fun v h'=>v=I 0/\∃Z mt',Ej h h' B X F Z/\Cc Z L mt'/\Sq Z/\Rm X Z n:=fun h2 c2 u=>by
   refine(Blb hK c2 (by omega) n d).mono ?_;rintro _ G ⟨rfl,c3⟩;exact⟨rfl,Y,mt',c3,a,E,t.more (by omega),fun y=>absurd y np,u⟩
  simp only[I,Ac];by_cases aa:i<N
  ·have:decide ((i:Int)<(N:Int))=true:=by simp;omega
   simp only[this,Aa,Ac5];rw[c1.C.ldM];refine A5n hK c1.C fun h2 x2=>?_
   have c2:=c1.trans (c1.C.toE x2);simp only[Ac];by_cases hp:n<=Y.prs
   ·simp only[hp,aB,Aa]
    exact .ret ⟨rfl,Y,mt',c2,a,E,t.more (by omega),fun y=>absurd y np,fun _=>hp⟩
   simp only[hp,aA,Aa,Amq];have tn:=t.nx;have ad:=t.gen;refine Ok.An (Bm2 A hK c2.C a E (by rw[o];omega) (by omega) (by omega) hd) ?_;rintro _ G ⟨b,Z,H,rfl,c3,cz,sz,w⟩;have q:=c2.trans c3;have af:Cg (.tuple []) false=false/\Cg (.tuple []) true=false:=⟨rfl,rfl⟩;simp only[Aa,I,Ac];rw[show decide ((0:Int)=34)=false from rfl];simp only[Aa,Alp];rcases w with⟨rfl,rfl,id⟩|⟨rfl,id,t2,dd,w2⟩
   ·simp only[Aa,Ac,Ab5]
    refine fin G q fun u=>?_
    rw[<-congrArg Gm.De o]at u;exact Int.le_trans u (a.Btr fun z hz=>a.full id.2 hz)
   ·simp only[aD,aA,Aa,Ac,Ab5,Amz]
    rw[Cj,show((i:Nat):Int)+1=((i+1:Nat):Int) by omega];have t3:=t.trans t2;refine V (i+1) G Z H (by omega) (by omega) q cz sz t3 fun _=>⟨Bil dd _,?_⟩
    have f2:=t2.free;rw[show(((i+1:Nat):Int)-1)=(i:Int) by omega];rcases dI i with y|y
    ·subst y;simp;omega
    ·obtain⟨O,J⟩:=M y
     rw[<-o]at O;have:=w2 O;rw[o]at this;rw[Int.sub_mul,Int.one_mul]at J;omega
  ·have:decide ((i:Int)<(N:Int))=false:=by simp;omega
   simp only[this,Aa];refine fin p c1 fun _=>?_
   have e:i=N:=by omega
   have all:=c.c.sm.Ag0;obtain⟨_,J⟩:=M (by omega);refine a.Bnf ?_;rw[o];have m:X.S.g.S*n<=X.S.g.S*(X.S.g.D*X.S.g.Z):=bT Q (by omega);rw[e,<-T,Int.sub_mul,Int.one_mul,Int.mul_assoc,Int.mul_comm (X.S.g.D*X.S.g.Z) X.S.g.S]at J;omega
theorem Bbf(C:Cz h B X F)(c:Cc X L mt)(sq:Sq X)(m:3*X.S.g.S<=X.S.free)(o:X.gen+1024<=281474976710655)(p:X.nx+65600<=281474976710655)(hd:26<=d){n:Int}(h0:0<=n)(q:n<=X.S.g.D*X.S.g.Z):Ok (Ae TT disp K d false 20 [.ptr B.c 0,I n] h) fun v h'=>v=I 0/\∃Z mt',Ej h h' B X F Z/\Cc Z L mt'/\Sq Z/\Rm X Z n:=by
 obtain⟨e,rfl⟩:∃k,d=k+1:=⟨d-1,by omega⟩;rw[Akz A (by omega)];simp only[Akl,Aa,I,Ac];have t:Cg (.tuple []) false=false/\Cg (.tuple []) true=false:=⟨rfl,rfl⟩;have a:¬n<0:=by omega
 simp only[a,aA,Aa,Ac];rw[C.ldM];refine Aoq A C fun h2 u=>?_
 have c2:=C.toE u;have E:¬X.S.g.D*X.S.g.Z<n:=by omega
 simp only[I,Ac,E,aA,Aa,Ta,Ak0];rw[c2.C.ldM];refine Aoq A c2.C fun G H=>?_
 have c3:=c2.trans (c2.C.toE H);have bd:=C.sm.Ag0;obtain⟨N,f⟩:=aY (show 0<=2*(X.S.g.D*X.S.g.Z) by omega);simp only[I,Ac];rw[Cj,f];by_cases np:n<=X.prs
 ·
  have i:K=(K-1)+1:=by omega
  rw[i,Mc,<-i];simp only[I,Ac];have b:decide ((0:Int)<(N:Int))=true:=by simp;omega
  simp only[b,Aa,Ac5];rw[c3.C.ldM];refine A5n hK c3.C fun h4 J=>?_
  have c4:=c3.trans (c3.C.toE J);simp only[Ac,np,aB,Aa];exact .ret ⟨rfl,X,mt,c4,c,sq,(Tdy.refl X).more (by omega),fun _=>rfl,fun _=>np⟩
 ·exact Bb4 A hK c m o p (d:=e) (by omega) q f (by omega) np K 0 G X mt (by omega) (by omega) c3 c sq (Tdy.refl X) fun y=>by omega
omit hK in
theorem Bid(C:Cz h B X F)(hd:26<=d){n:Int}(i:n<0\/X.S.g.D*X.S.g.Z<n):Ok (Ae TT disp K d false 20 [.ptr B.c 0,I n] h) fun v h'=>v=I 13/\Ej h h' B X F X:=by
 obtain⟨e,rfl⟩:∃k,d=k+1:=⟨d-1,by omega⟩;rw[Akz A (by omega)];simp only[Akl,Aa,I,Ac];have a:Cg (.tuple []) false=false/\Cg (.tuple []) true=false:=⟨rfl,rfl⟩;by_cases h0:n<0
 ·simp only[h0,aB,Aa,Ac,Ta]
  exact .ret ⟨rfl,Ej.refl C⟩
 simp only[h0,aA,Aa,Ac];rw[C.ldM];refine Aoq A C fun h2 b=>?_
 have c2:=C.toE b;simp only[I,Ac];have f:X.S.g.D*X.S.g.Z<n:=by omega
 simp only[f,aB,Aa,Ac,Ta];exact .ret ⟨rfl,c2⟩
theorem A02(C:Cz h B X F)(c:Cc X L mt)(sq:Sq X)(a:3*X.S.g.S<=X.S.free)(b:X.gen+1024<=281474976710655)(f:X.nx+65600<=281474976710655)(hd:27<=d):Ok (Ae TT disp K d false 77 [.ptr B.c 0] h) fun v h'=>v=I 0/\∃Z mt',Ej h h' B X F Z/\Cc Z L mt'/\Sq Z/\Rm X Z X.S.g.De:=by
 obtain⟨e,rfl⟩:∃k,d=k+1:=⟨d-1,by omega⟩;rw[Ar1 A (by omega)];simp only[Amf,Aa];rw[C.ldM];refine Ok.An (Ss (K:=K) C.M C.hb) ?_;rintro _ h2 ⟨rfl,i⟩;rw[Aak C.sm,As];have c3:=C.toE (i.Ds (.cells (gL X.S.g) 23));have p:=(Bn2 c.c.rt).2;have m:0<=X.S.g.De:=by
  have:=dP (show 0<=X.S.g.D by have:=c.c.sm.d0;omega) c.c.sm.p0;unfold Gm.De;omega
 refine Ok.An (Bbf A hK c3.C c sq a b f (d:=e) (by omega) m (by omega)) ?_;rintro _ h4 ⟨rfl,Z,mt',c4,o,sz,r⟩;exact .ret ⟨rfl,Z,mt',c3.trans c4,o,sz,r⟩
omit A hK in
theorem Rm.Btz(a:Cc Y L mt')(r:Rm X Y X.S.g.De):4*X.S.g.S<=Y.S.free:=by
 have p:=r.res (cb _);have q:=a.prs.1;have s:=a.c.sm;have s0:=s.s0;have d0:=s.d0;have p0:=s.p0;rw[r.t.g]at q s0 d0 p0;have b:4<=X.S.g.De:=by
  have:=dP (show 0<=X.S.g.D by omega) p0;unfold Gm.De;omega
 have:X.S.g.S*4<=X.S.g.S*Y.prs:=bT (by omega) (by omega);omega
end
end
section
structure Jc(X:Co)(L:List (List Nat))(mt:Int->Int):Prop where
 c:Cc X L mt
 sq:Sq X
 fr:3*X.S.g.S<=X.S.free
structure Opd(X Y:Co):Prop where
 g:Y.S.g=X.S.g
 nm:Y.ep=X.ep/\Y.st=X.st
 gen:X.gen<=Y.gen/\Y.gen<=X.gen+1100
 nx:X.nx<=Y.nx/\Y.nx<=X.nx+70000
theorem Opd.refl(X:Co):Opd X X:=⟨rfl,⟨rfl,rfl⟩,by omega,by omega⟩
theorem Tdy.opd(t:Tdy X Y 1024):Opd X Y:=by
 have a:=t.gen;have b:=t.nx;exact⟨t.g,t.nm,by omega,by omega⟩
theorem A9j {es:List Me}{j:Int}(h:¬(0<=j/\j<es.length)):Atk es j=(Me.nil 0,13):=by unfold Atk;rw[aF h]
theorem Mvs.opd(t:Tdy X Y 1024)(m:Mvs Y Z D k)(e:k<=4):Opd X Z:=by
 have a:=t.gen;have b:=t.nx;have n:=m.nm;exact⟨m.g.trans t.g,⟨n.2.1.trans t.nm.1,n.2.2.2.trans t.nm.2⟩,by omega,by omega⟩
section
variable (A:Bj disp)(hK:10000<K)
include A hK
theorem Bcn(C:Cz h B X F)(J:Jc X L mt)(hg:X.gen+1100<=281474976710655)(hx:X.nx+70000<=281474976710655)(hd:28<=d)(j:Int):Ok (Ae TT disp K d false 59 [.ptr B.c 0,I j] h) fun v h'=>∃(e:Int) (Y:Co) (mt':Int->Int),v=I e/\Ej h h' B X F Y/\Jc Y L mt'/\Opd X Y/\(¬e=0->e=13/\Y=X):=by
 obtain⟨e,rfl⟩:∃k,d=k+1:=⟨d-1,by omega⟩;rw[Awu A (by omega)];simp only[Aui,Aa];rw[C.ldB];refine Ok.An (Qh (K:=K) C.sm C.map C.hb j) ?_;rintro _ h2 ⟨rfl,S⟩;have c2:=C.toE S;simp only[Aa];by_cases hj:0<=j/\j<X.es.length
 case neg=>
  rw[A9j hj];simp only;refine Ok.mk rfl rfl fun T p e3 _=>?_
  have c3:=c2.trans (c2.C.toE p);have q:Cg (.tuple []) false=false/\Cg (.tuple []) true=false:=⟨rfl,rfl⟩;simp only[I,Ac];have f:¬(13:Int)=0:=by decide
  simp only[f,aN,aB,Aa,Ac,Wa];exact .ret ⟨13,X,mt,rfl,c3,J,Opd.refl X,fun _=>⟨rfl,rfl⟩⟩
 obtain⟨b,rfl⟩:=aY hj.1;have i:=aC (show b<X.es.length by omega);rw[Ait i];simp only;generalize X.es[b]=x at i⊢;refine Ok.mk rfl rfl fun T p e3 _=>?_
 have c3:=c2.trans (c2.C.toE p);have q:Cg (.tuple []) false=false/\Cg (.tuple []) true=false:=⟨rfl,rfl⟩;simp only[I,Ac,aD,aA,Aa];rw[Al e3 rfl (v:=I x.state) rfl];simp only[I,Ac];by_cases O:x.state=1
 case neg=>
  simp only[O,aN,aB,Aa,Ac,Wa];exact .ret ⟨0,X,mt,rfl,c3,J,Opd.refl X,fun y=>absurd rfl y⟩
 simp only[O,aD,aA,Aa,Ac,Wa,Am6];refine Ok.An (A02 A hK c3.C J.c J.sq J.fr (by omega) (by omega) (d:=e) (by omega)) ?_;rintro _ h5 ⟨rfl,Y,mt',a,o,P,r⟩;have a:=c3.trans a;have mu:=r.Btz o;have s0:=J.c.c.sm.s0;have tn:=r.t.nx;simp only[I,Ac,aD,aA,Aa,Alx];have u:b<Y.es.length:=by rw[r.t.len];omega
 have E:=aC u;generalize Y.es[b]=y at E;by_cases Q:y.state=1
 ·refine Ok.An (Bhn A hK a.C o E Q (by omega) (by omega) (d:=e) (by omega)) ?_
  rintro _ U ⟨rfl,Z,G,H,V,m,W⟩;have mg:=m.g;have M:=r.t.g;have mf:=m.free;exact .ret ⟨0,Z,G,rfl,a.trans H,⟨V,Mvs.sq o P W,by rw[mg,M];omega⟩,Mvs.opd r.t m (by omega),fun y=>absurd rfl y⟩
 ·refine Ok.An (A67 A a.C E Q (d:=e) (by omega)) ?_
  rintro _ U ⟨rfl,H⟩;have M:=r.t.g;exact .ret ⟨0,Y,mt',rfl,a.trans H,⟨o,P,by rw[M];omega⟩,r.t.opd,fun y=>absurd rfl y⟩
theorem A9u(C:Cz h B X F)(J:Jc X L mt)(hd:15<=d):Ok (Ae TT disp K d false 60 [.ptr B.c 0] h) fun v h'=>v=I 0/\∃Y,Ej h h' B X F Y/\Jc Y L mt/\Opd X Y/\Y.gen=X.gen/\Y.nx=X.nx:=by
 obtain⟨e,rfl⟩:∃k,d=k+1:=⟨d-1,by omega⟩;rw[Avn A (by omega)];simp only[Arl,Aa];rw[C.ldM];obtain⟨D,V,dr⟩:=Alv A hK C.M C.hb;rw[dr.Eb];have b:=Aqi J.c.c.ev J.c.c.up;refine Ok.An (dr.flush (d:=e) (by omega)) ?_;rintro v m ⟨rfl,g,kf,f⟩;have c1:=C.Kk g kf f (Bh7 (A0c _));have i:Dq X.S { X.S with dr:=X.S.dr.flush.1 } fun _=>False:=by rw[b];exact Dq.Wn J.c.c
 have a:=J.c.dq i (fun _ _ y=>y.elim) fun _ _ _=>⟨id,id⟩
 rw[b];rw[b]at c1 a;exact .ret ⟨rfl,_,c1,⟨a,J.sq.es rfl,J.fr⟩,⟨rfl,⟨rfl,rfl⟩,⟨cb _,by show X.gen<=_;omega⟩,⟨cb _,by show X.nx<=_;omega⟩⟩,rfl,rfl⟩
def Aoz(L:List (List Nat))(b:Nat):Nat->List (List Nat)
 | 0=>L
 | n+1=>(Aoz L b n).set (b+n) (List.replicate 32 0)
omit A hK in
theorem A3y(L:List (List Nat))(b:Nat):∀n,(Aoz L b n).length=L.length
 | 0=>rfl
 | n+1=>by unfold Aoz;rw[bK,A3y L b n]
def A1p(es:List Me)(b:Nat):Nat->List Me
 | 0=>es
 | n+1=>(A1p es b n).set (b+n) (Me.nil 0)
omit A hK in
theorem A07(es:List Me)(b:Nat):∀n,(A1p es b n).length=es.length
 | 0=>rfl
 | n+1=>by unfold A1p;rw[bK,A07 es b n]
omit A hK in
theorem Bdr(es:List Me)(b:Nat):∀(n j:Nat),j<es.length->(A1p es b n)[j]? = if b<=j/\j<b+n then some (Me.nil 0)else es[j]?
 | 0,j,hj=>by rw[aF (by omega)];rfl
 | n+1,j,hj=>by
  unfold A1p;rw[dD,A07,Bdr es b n j hj];by_cases h:b+n=j
  ·subst h
   rw[aG rfl,aG hj,aG (by omega)]
  ·rw[aF h]
   by_cases h2:b<=j/\j<b+n
   ·rw[aG h2,aG (by omega)]
   ·rw[aF h2,aF (by omega)]
theorem Bej {b:Nat}(u:b+n<=1000)(a:Co)(q:List (List Nat))(Q:b+n<=a.es.length):∀(f i:Nat) (m:Ab) (Y:Co),n-i<f->i<=n->Ej h m B X F Y->Cc Y (Aoz q b i) mt->Sq Y->Y = { a with es:=A1p a.es b i } ->
 Ok (P7 (Ae TT disp K d false) (Ae TT disp K d true) K f (.ptr B.c 0) (I (b:Int)) (I (n:Int)) (I ((b+i:Nat):Int)) m) fun v h'=>v=I 0/\∃Z,Ej h h' B X F Z/\Cc Z (Aoz q b n) mt/\Sq Z/\Z = { a with es:=A1p a.es b n }:=by
 intro f;induction f with
 | zero=>intro i m Y E;omega
 | succ f G=>
  intro i m Y E T c1 o t e;rw[P7];simp only[I,Ac];rw[Cj (n:=(b:Int)+n) (by omega) (by omega)];have el:Y.es.length=a.es.length:=by rw[e];exact A07 _ _ _
  by_cases H:i<n
  ·have hd:decide (((b+i:Nat):Int)<(b:Int)+n)=true:=by simp;omega
   simp only[hd,Aa,Amd];rw[c1.C.ldB,Ay (l:=(Me.nil 0).cells) rfl];have ms:=Ax1 (K:=K) c1.C.sm c1.C.map c1.C.hb (x:=Me.nil 0) (fun y=>by cases y) ((b+i:Nat):Int);have J:meR Y.S.g (Me.nil 0)=true:=by unfold meR;rw[aG (.inl rfl)];exact aM rfl
   have M:A81 Y.S.g Y.es ((b+i:Nat):Int) (Me.nil 0)=(Y.es.set (b+i) (Me.nil 0),0):=by
    unfold A81;rw[aG ⟨by omega,by omega⟩,aG J,aZ]
   rw[M]at ms;refine Ok.An ms ?_;rintro _ h2 ⟨rfl,m2,O,p⟩;have c2:=c1.trans (c1.C.Bt4 m2 O p);simp only[Alk,Ac];rw[Cj,show(((b+i:Nat):Int))+1=((b+(i+1):Nat):Int) by omega];have cs:=o.set (j:=b+i) (by omega) (x:=Me.nil 0) (bs:=List.replicate 32 0) (.inl ⟨rfl,rfl⟩) (by have:=o.nm.2.2;show(0:Int)<_;omega);refine G (i+1) h2 _ (by omega) (by omega) c2 cs (t.set (Y:={ Y with es:=Y.es.set (b+i) (Me.nil 0) }) o.sq rfl fun y=>by cases y) ?_;rw[e];rfl
  ·have hd:decide (((b+i:Nat):Int)<(b:Int)+n)=false:=by simp;omega
   have P:i=n:=by omega
   subst P;simp only[hd,Aa,Alj];exact .ret ⟨rfl,Y,c1,o,t,e⟩
end
end
section
theorem Bn6 {n b m:Int}(h0:1<=n)(a:n<=281474976710655)(b0:0<=b)(b1:b<=255)(e:1<=m)(m1:m<=256-b):EOk ⟨2,n,1,b,m,0,Dp⟩ 1 n:=by
 unfold EOk E9;rw[aG];refine⟨?_,?_,cb _,by show n-1<n;omega⟩
 ·unfold erB Aq0
  simp only[aR,Fl];refine⟨⟨by omega,a⟩,⟨b0,b1⟩,⟨by decide,by decide⟩,?_⟩;simp[Fl];omega
 ·unfold frB
  simp only[aR,Fl];exact⟨⟨by decide,by decide⟩,⟨by decide,by decide⟩,⟨by decide,by decide⟩,⟨by decide,by decide⟩,by omega,a⟩
def We(g:Gm)(b m:Int):Bool:=(decide (0<=b)&&decide (b<g.B))&&(decide (1<=m)&&decide (m<=g.B-b))
section
variable (A:Bj disp)(hK:10000<K)
include A hK
theorem A2s(C:Cz h B X F)(J:Jc X L mt)(hg:X.gen+1100<=281474976710655)(hx:X.nx+70000<=281474976710655)(hd:28<=d)(block many:Int):Ok (Ae TT disp K d false 30 [.ptr B.c 0,I block,I many] h) fun v h'=>∃(e:Int) (Y:Co) (L':List (List Nat)) (mt':Int->Int),v=I e/\Ej h h' B X F Y/\Jc Y L' mt'/\Opd X Y /\
 ((We X.S.g block many=false/\e=13/\Y=X/\L'=L)\/(We X.S.g block many=true/\e=0/\L'=Aoz L block.toNat many.toNat/\∀i:Nat,block<=i->(i:Int)<block+many->Y.es[i]? = some (Me.nil 0))):=by
 obtain⟨e,rfl⟩:∃k,d=k+1:=⟨d-1,by omega⟩;have b1:=C.sm.b1;rw[Axa A (by omega)];simp only[Ath,Aa];refine Ok.An (A9x (K:=K) C block) ?_;rintro _ h2 ⟨rfl,V⟩;have c2:=C.toE V;have aa:Cg (.tuple []) false=false/\Cg (.tuple []) true=false:=⟨rfl,rfl⟩;have no:∀h',Ej h h' B X F X->We X.S.g block many=false->Ok (some (.int .i64 13,h')) fun v h'=>∃(e:Int) (Y:Co) (L':List (List Nat)) (mt':Int->Int),v=I e/\Ej h h' B X F Y/\Jc Y L' mt'/\Opd X Y /\
  ((We X.S.g block many=false/\e=13/\Y=X/\L'=L)\/(We X.S.g block many=true/\e=0/\L'=Aoz L block.toNat many.toNat/\∀i:Nat,block<=i->(i:Int)<block+many->Y.es[i]? = some (Me.nil 0))):=fun h' c t=>.ret ⟨13,X,L,mt,rfl,c,J,Opd.refl X,.inl ⟨t,rfl,rfl,rfl⟩⟩
 cases o:(decide (0<=block)&&decide (block<X.S.g.B))with
 | false=>
  simp only[Aa,Ac,Vz,Pk];exact no _ c2 (by unfold We;rw[o];rfl)
 | true=>
 have y:=o;simp only[aR,aQ]at o;simp only[Aa,Ac,I];by_cases E:many<1
 ·simp only[E,aB,Aa,Ac,Vz,Pk]
  exact no _ c2 (by unfold We;rw[aP (show ¬1<=many by omega),bA,cS])
 simp only[E,aA,Aa,Ac,Vz];rw[c2.C.ldM];refine Ok.An (Ss (K:=K) c2.C.M c2.hb) ?_;rintro _ h3 ⟨rfl,x3⟩;have c3:=c2.trans (c2.C.toE x3);unfold gV;rw[Aen (v:=I X.S.g.B) rfl];simp only[I,Ac];rw[Cj];by_cases h4:X.S.g.B-block<many
 ·simp only[h4,aB,Aa,Ac,Pk]
  exact no _ c3 (by unfold We;rw[aP (show ¬many<=X.S.g.B-block by omega),cS,cS])
 clear no;have ht:We X.S.g block many=true:=by unfold We;rw[y,aM (show 1<=many by omega),aM (show many<=X.S.g.B-block by omega)];rfl
 simp only[h4,aA,Aa,Ac,Pk,Ali];refine Ok.An (A02 A hK c3.C J.c J.sq J.fr (by omega) (by omega) (d:=e) (by omega)) ?_;rintro _ h5 ⟨rfl,Y,mt',a,G,sy,r⟩;have a:=c3.trans a;have mu:=r.Btz G;have s0:=J.c.c.sm.s0;have tn:=r.t.nx;have P:=G.nm;simp only[I,Ac,aD,aA,Aa,Anp];rw[a.C.ldN];have H:=Bsm Y.nx block many;rw[<-En.Js]at H;simp only[I]at H⊢;rw[Ay H];refine Ok.An (Btp A hK (d:=e) (by omega) (⟨Afo,Bq7⟩:(⟨2,Y.nx,1,block,many,0,Dp⟩:En).Wf) a.C G (by rw[P.2.1];exact Bn6 P.2.2 (by omega) (by omega) (by omega) (by omega) (by omega)) (by omega) (by omega)) ?_;rintro _ h6 ⟨x,Z,f,rfl,p,cz,m⟩;have p:=a.trans p;simp only[Aa];refine Ok.mk rfl rfl fun h7 x7 _ _=>?_
 have c7:=p.trans (p.C.toE x7);simp only[I,Ac,aD,aA,Aa,Amw];obtain⟨b,hb⟩:=aY o.1;obtain⟨n,hn⟩:=aY (show 0<=many by omega);subst hb hn;have lb:=J.c.lb;have b0:=C.sm.b0;have zl:Z.es.length=X.es.length:=by rw[m.es,r.t.len]
 have sz:Sq Z:=sy.es m.es;refine(Bej A hK (mt:=f) (b:=b) (n:=n) (by omega) (d:=e) Z L (by omega) K 0 h7 Z (by omega) (by omega) c7 cz sz rfl).mono ?_;rintro _ h8 ⟨rfl,W,c8,cw,sw,O⟩;have q:=m.nm;have pf:=m.free;have Q:=m.g;have T:=r.t.g;have aq:=r.t.gen;have U:W.S=Z.S:=by rw[O]
 have u:W.gen=Z.gen/\W.nx=Z.nx/\W.ep=Z.ep/\W.st=Z.st:=by rw[O];exact⟨rfl,rfl,rfl,rfl⟩
 refine⟨0,W,_,f,rfl,c8,⟨cw,sw,by rw[U,Q,T];omega⟩,⟨by rw[U,Q,T],⟨by rw[u.2.2.1,q.2.1,r.t.nm.1],by rw[u.2.2.2,q.2.2.2,r.t.nm.2]⟩,by rw[u.1,q.1];omega,by rw[u.2.1,q.2.2.1];omega⟩,.inr ⟨ht,rfl,rfl,fun i h0 E=>?_⟩⟩;have es:W.es=A1p Z.es b n:=by rw[O]
 rw[es,Bdr _ _ _ _ (by omega),aG (by omega)]
end
end
structure Rd'(X Y:Co):Prop where
 es:Y.es=X.es
 nm:Y.gen=X.gen/\Y.ep=X.ep/\Y.nx=X.nx/\Y.st=X.st
 g:Y.S.g=X.S.g
 cl:∀z,Y.closed z=X.closed z
 o:Y.S.a=X.S.a/\Y.S.b=X.S.b
theorem Rd'.refl(X:Co):Rd' X X:=⟨rfl,⟨rfl,rfl,rfl,rfl⟩,rfl,fun _=>rfl,⟨rfl,rfl⟩⟩
theorem Rd'.trans(a:Rd' X Y)(b:Rd' Y Z):Rd' X Z:=⟨b.es.trans a.es,⟨b.nm.1.trans a.nm.1,b.nm.2.1.trans a.nm.2.1,b.nm.2.2.1.trans a.nm.2.2.1,b.nm.2.2.2.trans a.nm.2.2.2⟩,b.g.trans a.g,fun z=>(b.cl z).trans (a.cl z),⟨b.o.1.trans a.o.1,b.o.2.trans a.o.2⟩⟩
theorem Rd'.opd(r:Rd' X Y):Opd X Y:=⟨r.g,⟨r.nm.2.1,r.nm.2.2.2⟩,by have:=r.nm.1;omega,by have:=r.nm.2.2.1;omega⟩
theorem Jc.Bv1(J:Jc X L mt):Jc { X with S:=X.S.D9.D9 } L mt/\Rd' X { X with S:=X.S.D9.D9 }:=by
 have q:=(Dq.D9 J.c.c);have c1:=J.c.q0 q;have a:=(Dq.D9 c1.c);have c2:=c1.q0 a;refine⟨⟨c2,J.sq.es rfl,J.fr⟩,rfl,⟨rfl,rfl,rfl,rfl⟩,rfl,fun z=>?_,⟨rfl,rfl⟩⟩;exact(N1 a z).trans (N1 q z)
theorem Cc.Bun(c:Cc X L mt):Cc { X with S:=X.S.D9.D9 } L mt/\({ X with S:=X.S.D9.D9 }:Co).S.free=X.S.free/\Rd' X { X with S:=X.S.D9.D9 }:=by
 have q:=(Dq.D9 c.c);have c1:=c.q0 q;have a:=(Dq.D9 c1.c);have c2:=c1.q0 a;exact⟨c2,rfl,rfl,⟨rfl,rfl,rfl,rfl⟩,rfl,fun z=>(N1 a z).trans (N1 q z),⟨rfl,rfl⟩⟩
theorem Cc.entry(c:Cc X L mt)(b:X.es[j]? = some x):∃bs,L[j]? = some bs/\bs.length=32/\((x=Me.nil 0/\bs=List.replicate 32 0)\/Mf X mt x bs):=by
 have a:j<L.length:=by rw[c.len];exact(aW.1 b).1
 have h:=c.A0x j x _ b (aC a);refine⟨_,aC a,?_,h⟩;rcases h with w|w
 ·rw[w.2];simp
 ·obtain⟨e,f,g,_⟩:=w.rc.ex
  rw[<-g];exact f.1
section
variable (A:Bj disp)(hK:10000<K)
include A hK
theorem A1k(C:Cz h B X F)(c:Cc X L mt)(hd:29<=d)(j:Int):Ok (Ae TT disp K d false 47 [.ptr B.c 0,I j] h) fun v h'=>∃(bl:List Nat) (e:Int) (Y:Co),v=.tuple [.agg (Bh bl),I e]/\bl.length=32/\Ej h h' B X F Y/\Cc Y L mt/\Y.S.free=X.S.free/\Rd' X Y/\((0<=j/\j<X.S.g.B/\e=0/\L[j.toNat]? = some bl)\/(¬(0<=j/\j<X.S.g.B)/\e=13/\Y=X)):=by
 obtain⟨dd,rfl⟩:∃k,d=k+1:=⟨d-1,by omega⟩;rw[Awy A (by omega)];simp only[Asu,Aa];rw[Io];obtain⟨P,Q,T,g4,n1⟩:=nW h (.cells (Bh Dp) 49);rw[Q];have t:=C.ext T;rw[t.ldB];refine Ok.An (Qh (K:=K) t.sm t.map t.hb j) ?_;rintro _ h2 ⟨rfl,u⟩;have rg:=Ba9 C.sm (Bfz C.map.ok j);have lb:=c.lb;have b0:=C.sm.b0;have fin:∀(f:Ab),Ext h f->h.next<f.next->∀(bl:List Nat) (e:Int) (h4:Ab) (Y:Co),bl.length=32->Ej f h4 B X (Bg F h f) Y->h4.get h.next=some (.cells (Bh Dp) 49)->Cc Y L mt/\Y.S.free=X.S.free/\Rd' X Y/\((0<=j/\j<X.S.g.B/\e=0/\L[j.toNat]? = some bl)\/(¬(0<=j/\j<X.S.g.B)/\e=13/\Y=X))->Ok (stE 32 (.ptr h.next 0) (.agg (Bh bl)) h4 fun h=>Ji TT [.c (.ptr (P.next-1) 0) 49,.v (.int .i64 e)] h) fun v h'=>∃(bl:List Nat) (e:Int) (Y:Co),v=.tuple [.agg (Bh bl),I e]/\bl.length=32/\Ej h h' B X F Y/\Cc Y L mt/\Y.S.free=X.S.free/\Rd' X Y/\((0<=j/\j<X.S.g.B/\e=0/\L[j.toNat]? = some bl)\/(¬(0<=j/\j<X.S.g.B)/\e=13/\Y=X)):=by
  intro f a ao bl e h4 Y hl c4 G q;have ul:(Bh bl).length=32:=by rw[Be,hl]
  have l4:=c4.hb _ _ G;rw[show P.next-1=h.next by omega];refine Ok.st (Bh bl) G rfl (by show Gk (Bh bl)=32;rw[Bc,ul]) (Bm (by show(Bh Dp).length=(Bh bl).length;rw[ul,Be,Afo])) ?_;rw[Gg (Af _ _ _) Avv.1 Avv.2 ul];exact .ret ⟨bl,e,Y,rfl,hl,Ej.Bp9 a c4 ((Av.refl (S:=fun i=>i=h.next) h4).Ar (.inl rfl) l4 _) (fun i hi=>by subst hi;omega) (c4.hb.put l4 _),q⟩
 rw[show P.next-1=h.next by omega]at fin;have bz:∀k:EV->R,Bv (Mv 1) (Bh Dp) [] k=k (.agg (Bh Dp)):=fun k=>Ay rfl
 have au:=u.hb t.hb;have aw:Cg (.tuple []) false=false/\Cg (.tuple []) true=false:=⟨rfl,rfl⟩;simp only[Aa];by_cases hj:0<=j/\j<X.es.length
 case neg=>
  rw[A9j hj];simp only;refine Ok.mk rfl rfl fun f y e3 _=>?_
  have a:Ext h f:=(T.trans u).trans y;have o:=Ext.at (u.trans y) t.hb g4;have U:=(u.trans y).next
  have m:=C.ext a;simp only[I,Ac];have H:¬(13:Int)=0:=by decide
  simp only[H,aN,aB,Aa,Ac,Wk];rw[Io,bz];exact fin f a (by omega) Dp 13 f X rfl (Ej.refl m) o ⟨c,rfl,Rd'.refl X,.inr ⟨by omega,rfl,rfl⟩⟩
 obtain⟨b,rfl⟩:=aY hj.1;have E:=aC (show b<X.es.length by omega);rw[Ait E]at rg⊢;simp only at rg⊢;generalize X.es[b]=x at E rg⊢;refine Ok.mk rfl rfl fun f y e3 _=>?_
 have a:Ext h f:=(T.trans u).trans y;have o:=Ext.at (u.trans y) t.hb g4;have U:=(u.trans y).next
 have m:=C.ext a;have f4:Bg F h f h.next:=.inr ⟨aE _,by omega⟩
 obtain⟨bs,hL,J,V⟩:=c.entry E;have O:(b:Int)<X.S.g.B:=by omega
 simp only[I,Ac,aD,aA,Aa];rw[Al e3 rfl (v:=I x.state) rfl];simp only[I,Ac];rcases V with⟨rfl,rfl⟩|lv
 ·simp only[show(Me.nil 0).state=0 from rfl,aB,Aa,Ac,Wk]
  rw[Io,bz];exact fin f a (by omega) Dp 0 f X rfl (Ej.refl m) o ⟨c,rfl,Rd'.refl X,.inl ⟨by omega,O,rfl,by rw[aZ,hL];rfl⟩⟩
 have s1:=lv.st;simp only[s1,Aa,Ac];rw[show decide ((1:Int)=0)=false from rfl];simp only[Aa,Ac,Wk];rw[Al e3 rfl (v:=I x.state) rfl];simp only[I,Ac,s1];rw[show decide ((1:Int)=2)=false from rfl];simp only[Aa,Ac,Anf];have lc:=m.hb _ _ m.core;have l6:=m.hb _ _ e3;rw[Ku lc,m.ldM];simp only[Aa,Aw];rw[Ku l6,Bp e3 rfl (Ai (n:=6) rfl)];simp only[Aa,Aw];have ck:=A8e A hK (d:=dd) (by omega) m.lift.M m.lift.hb rg.1 rg.2;have mk:=Bet X.S x;rw[c.check lv]at ck mk;obtain⟨jt,ft,rt⟩:=c.Bun;refine Ok.bC (S:=fun j=>¬B.fr (Bg F h f) j) ck (fun _ _ p=>p.2.2.2.1) ?_;rintro _ ay h4 s' ⟨rfl,bw,M',_,W⟩ sm ch aa;have c4:=m.Kk (M'.same sm) ch (sm.hb W) mk;simp only at c4 bw;generalize ({ X with S:=X.S.D9.D9 }:Co)=Y at c4 jt ft rt;have ul:(Bh bs).length=32:=by rw[Be,J]
 simp only[Aa];rw[Lf (by rcases aa with rfl|⟨w,rfl,_⟩<;>kernel_rfl)];refine Ok.st (Bh bs) (Ad _ _) rfl (by show Gk (Bh bs)=32;rw[Bc,ul]) (Bm (by rw[bQ];exact ul.symm)) ?_;obtain⟨h5,Q,x5,g8,n5⟩:=nP h4 (.cells (List.replicate 32 (EV.int .u8 0)) 49) (.cells (Bh bs) 49);rw[Q];have c5:=c4.trans (c4.C.toE x5);have ab:=c5.k.at m.hb o f4;simp only[I,Ac,aD,aA,Aa,Aml];have ad:¬(2:Int)<2:=by decide
 simp only[ad,aA,Aa,Ac,Anb,Al1,dr];rw[Bp g8 rfl (Ai ul)];exact fin f a (by omega) bs 0 h5 Y J c5 ab ⟨jt,ft,rt,.inl ⟨by omega,O,rfl,by rw[aZ];exact hL⟩⟩
theorem Bbm(C:Cz h B X F)(J:Jc X L mt)(hd:29<=d)(j:Int):Ok (Ae TT disp K d false 47 [.ptr B.c 0,I j] h) fun v h'=>∃(bl:List Nat) (e:Int) (Y:Co),v=.tuple [.agg (Bh bl),I e]/\bl.length=32/\Ej h h' B X F Y/\Jc Y L mt/\Rd' X Y/\((0<=j/\j<X.S.g.B/\e=0/\L[j.toNat]? = some bl)\/(¬(0<=j/\j<X.S.g.B)/\e=13/\Y=X)):=by
 refine(A1k A hK C J.c hd j).mono ?_;rintro v h' ⟨bl,e,Y,a,b,c,i,f,r,w⟩;exact⟨bl,e,Y,a,b,c,⟨i,J.sq.es r.es,by rw[r.g,f];exact J.fr⟩,r,w⟩
end
end Go.Ev
