import Derived.Test.YtadnemjjlacolaaGreatNb
import Derived.Test.YtadnemjjlacolaaGreatCd
set_option linter.all false
namespace Go.Ev
open Go.Proofs
set_option maxRecDepth 100000
variable {X Y:Co}{D F:Nat->Prop}{K d j k n:Nat}{x:Me}{mt mt':Int->Int}{L:List (List Nat)}{disp:Nat->Option FT}{h:Aa}{B:Cb}
section
theorem Mvs.Bp0{E:Nat->Prop}(a:Mvs X Y D k)(h:∀b,D b↔E b):Mvs X Y E k:=by
 have:D=E:=funext fun b=>propext (h b)
 subst this;exact a
section
variable (A:Bv disp)(hK:10000<K)
include A hK
theorem Bgn(C:Dw h B X F)(c:Cc X L mt)(a:X.es[j]? = some x)(b:x.state=1)(f:1<=X.S.free)(g:X.nx<=281474976710655)(hd:23<=d):
 Ok (Ag TT disp K d false 74 [.ptr B.c 0,I j] h) fun v h'=>v=I 0/\∃Y mt',Ey h h' B X F Y/\Cc Y L mt'/\Mvs X Y (fun i=>i=j) 1/\∃y,Y.es=X.es.set j y/\y.seq=X.nx:=by
 obtain⟨e,rfl⟩:∃k,d=k+1:=⟨d-1,by omega⟩;rw[Adv A (by omega)];simp only[Aea,Ab];rw[C.ldB];refine Ok.Ap (Uq (K:=K) C.sm C.map C.hb j) ?_;rintro _ h2 ⟨rfl,o⟩;have c2:=C.toE o;rw[Axe a];simp only[Ab];refine Ok.mk rfl rfl fun t p e3 _=>?_
 have c3:=c2.trans (c2.C.toE p);rw[Al e3 rfl (v:=I x.state) rfl];simp only[I,Ac];simp only[b,aC,aA,Ab];refine(Bd4 A hK c3.C c a b f g (d:=e) (by omega) e3).mono ?_;rintro v h4 ⟨rfl,Y,mt',c4,q,m,y⟩;exact⟨rfl,Y,mt',c3.trans c4,q,m,y⟩
omit A hK in
theorem Mvs.sq(c:Cc X L mt)(s:Sq X)(m:∃y,Y.es=X.es.set j y/\y.seq=X.nx):Sq Y:=by
 obtain⟨y,e,q⟩:=m;exact s.set c.sq e fun _=>by omega
omit hK in
theorem Bdh(C:Dw h B X F)(a:X.es[j]? = some x)(b:¬x.state=1)(hd:23<=d):Ok (Ag TT disp K d false 74 [.ptr B.c 0,I j] h) fun v h'=>v=I 0/\Ey h h' B X F X:=by
 obtain⟨e,rfl⟩:∃k,d=k+1:=⟨d-1,by omega⟩;rw[Adv A (by omega)];simp only[Aea,Ab];rw[C.ldB];refine Ok.Ap (Uq (K:=K) C.sm C.map C.hb j) ?_;rintro _ h2 ⟨rfl,f⟩;have c2:=C.toE f;rw[Axe a];simp only[Ab];refine Ok.mk rfl rfl fun i g e3 _=>?_
 have c3:=c2.trans (c2.C.toE g);rw[Al e3 rfl (v:=I x.state) rfl];simp only[I,Ac];simp only[b,aN,aB,Ab];exact .ret ⟨rfl,c3⟩
end
structure Cln(X Y:Co)(z:Int)(n:Nat):Prop where
 len:Y.es.length=X.es.length
 Ju:∀(b:Nat) x,inB z x=false->X.es[b]? = some x->Y.es[b]? = some x
 mvd:∀(b:Nat) x,inB z x=true->X.es[b]? = some x->∃y,Y.es[b]? = some y/\y.state=1/\y.sum=x.sum/\¬y.Ah=z/\¬y.Ay=z
 nm:Y.gen=X.gen+1/\Y.ep=X.ep/\Y.nx=X.nx+n/\Y.st=X.st
 g:Y.S.g=X.S.g
 free:X.S.free-n<=Y.S.free/\(0<n->X.S.free-n+X.S.g.S<=Y.S.free)
 fr:z∈Y.S.ps (Bo X.S.g z).toNat
 cl:Y.closed z=false
 dd:∀z,Y.dead z=false
theorem Bg7 {z:Int}(h:inB z x=false)(a:x.state=1):¬x.Ah=z/\¬x.Ay=z:=by
 constructor<;>intro e
 ·rw[Ajs.2 ⟨a,.inl e⟩]at h;cases h
 ·rw[Ajs.2 ⟨a,.inr e⟩]at h;cases h
section
variable {Z:Co}
theorem Cc.Bl3(c:Cc X L mt)(P:Cc Y L mt'){z:Int}(H:X.closed z=true)(Q:n=(blN z X.es X.es.length).length)(m:Mvs X Y (fun i=>i∈blN z X.es X.es.length) n)(k:Ckp Y Z):Cln X Z z n:=by
 have lv:∀w:Int,X.closed w=true->(∀x∈X.es,x.state=1->inB z x=false->¬x.Ah=w/\¬x.Ay=w)->Y.dead w=true:=fun w hw o=>by
  refine Wi.2 ⟨m.cl w hw,?_⟩;have:Jt Y.es w=0:=A1g fun y v t=>by
   obtain⟨b,hb⟩:=cV.1 v;have S:b<X.es.length:=by rw[<-m.len];exact(aY.1 hb).1
   have p:=aD S;rcases fG (b∈blN z X.es X.es.length)with d|d
   ·obtain⟨y',a,_,G,h4,_⟩:=m.mvd b _ d p
    rw[hb]at a;cases a;exact⟨fun e=>by (rw[e,hw]at G;cases G),fun e=>by (rw[e,hw]at h4;cases h4)⟩
   ·have M:=m.Ju b _ d p
    rw[hb]at M;cases M;refine o _ (bU p) t ?_;cases q:inB z X.es[b]with
    | false=>rfl
    | true=>exact absurd (Amy.2 ⟨_,p,q⟩) d
  unfold X5;rw[this,ite_self]
 have dz:Y.dead z=true:=lv z H fun x _ t q=>Bg7 q t
 have O:∀w,X.closed w=false->¬w=z:=fun w hw e=>by rw[e,H]at hw;cases hw
 refine⟨by rw[k.es];exact m.len,fun b x q o=>?_,fun b x q o=>?_,⟨?_,?_,?_,?_⟩,k.g.trans m.g,?_,?_,?_,k.dead⟩
 ·rw[k.es]
  refine m.Ju b x (fun hb=>?_) o;obtain⟨x',C,f⟩:=Amy.1 hb;rw[o]at C;cases C;rw[q]at f;cases f
 ·obtain⟨y,t,h2,G,h4,T,_⟩:=m.mvd b x (Amy.2 ⟨x,o,q⟩) o
  exact⟨y,by rw[k.es];exact t,h2,T,O _ G,O _ h4⟩
 ·rw[k.nm.1,m.nm.1]
 ·rw[k.nm.2.1,m.nm.2.1]
 ·rw[k.nm.2.2.1,m.nm.2.2.1]
 ·rw[k.nm.2.2.2,m.nm.2.2.2]
 ·obtain⟨f1,f2⟩:=k.free P
  have mf:=m.free;refine⟨by omega,fun hp=>?_⟩;rw[Q]at hp;obtain⟨b,hb⟩:=List.exists_mem_of_length_pos hp;obtain⟨x,o,q⟩:=Amy.1 hb;obtain⟨t,E⟩:=Ajs.1 q;obtain⟨bs,_,l⟩:=c.at o t;obtain⟨_,_,hd,_⟩:=At9 l.ok;obtain⟨_,U,V,_⟩:=Ew.1 H;have wh:X.closed x.Ah=true/\X.closed x.Ay=true:=by
   rcases l.wh with⟨w1,w2⟩|w
   ·rcases E with e|e
    ·exact absurd (e▸w1) U
    ·exact absurd (e▸w2) V
   ·exact w
  have both:Y.dead x.Ah=true/\Y.dead x.Ay=true:=by
   rcases E with e|e
   ·refine⟨by rw[e];exact dz,lv _ wh.2 fun y v a f=>?_⟩
    obtain⟨W,u⟩:=cV.1 v;obtain⟨J,_,l'⟩:=c.at u a;have no:=Bg7 f a;refine⟨fun e'=>no.2 ?_,fun e'=>no.1 ?_⟩
    ·rw[<-l'.m1,e',l.m2];exact e
    ·rw[<-l'.m2,e',l.m2];exact e
   ·refine⟨lv _ wh.1 fun y v a f=>?_,by rw[e];exact dz⟩
    obtain⟨W,u⟩:=cV.1 v;obtain⟨J,_,l'⟩:=c.at u a;have no:=Bg7 f a;refine⟨fun e'=>no.2 ?_,fun e'=>no.1 ?_⟩
    ·rw[<-l'.m1,e',l.m1];exact e
    ·rw[<-l'.m2,e',l.m1];exact e
  have:=f2 _ _ both.1 both.2 (by rw[m.g];exact hd);rw[m.g]at this;omega
 ·have:=k.fr z dz
  rw[m.g]at this;exact this
 ·rw[k.cl,dz,dM,cr]
end
section
variable (A:Bv disp)(hK:10000<K)
include A hK
theorem A2f(c:Cc X L mt)(sq:Sq X){z:Int}(P:X.closed z=true)(hd:23<=d){s:EV}{q:Nat}{N:List Nat}(g:N=blN z X.es X.es.length)(Q:N.length<=256)(T:(N.length:Int)<=X.S.free)(hg:X.gen<281474976710655)(hx:X.nx+N.length<=281474976710655)(U:0<N.length->F q):∀(f i:Nat) (e:Aa) (Y:Co) (mt':Int->Int),N.length-i<f->i<=N.length->Ey h e B X F Y->Cc Y L mt'->Sq Y->Mvs X Y (fun b=>b∈N.take i) i->Cj e s q 3 1 N.length (N.map nI) ->
 Ok (Lu (Ag TT disp K d false) (Ag TT disp K d true) K f (.ptr B.c 0) s (I N.length) (I i) e) fun v h'=>v=I 0/\∃Z mt',Ey h h' B X F Z/\Cc Z L mt'/\Sq Z/\Cln X Z z N.length:=by
 intro f;induction f with
 | zero=>intro i e Y mt' T;omega
 | succ f V=>
  intro i e Y mt' W hi c1 o M m row;rw[Lu];simp only[I,Ac];have mn:=m.nm;by_cases a:i<N.length
  ·have:decide ((i:Int)<(N.length:Int))=true:=by simp;omega
   simp only[this,Ab,Adu];have ix:=row.ix a .i64;rw[ix,bW,Al (row.block (by omega)) rfl (v:=I (N[i]:Int)) (by rw[bB,aD a];rfl)];have nd:N.Nodup:=by rw[g];exact A5o _ _ _
   have ni:N[i] ∉ N.take i:=by
    intro hm;obtain⟨k,hk,p⟩:=List.mem_take_iff_getElem.1 hm;exact(List.pairwise_iff_getElem.1 nd) k i (by omega) a (by omega) p
   have t:∀b,b∈N->b∈blN z X.es X.es.length:=fun b hb=>by rw[<-g];exact hb
   obtain⟨x,u,E⟩:=Amy.1 (t _ (a9 a));have G:=m.Ju _ x ni u;have mf:=m.free;refine Ok.Ap (Bgn A hK c1.C o G (Ajs.1 E).1 (by omega) (by omega) hd) ?_;rintro _ h2 ⟨rfl,Z,H,c2,J,m2,y2⟩;have bl:=Q;simp only[I,Ac,aC,aA,Ab,Ad3];rw[Cq,show((i:Nat):Int)+1=((i+1:Nat):Int) by omega];refine V (i+1) h2 Z H (by omega) (by omega) (c1.trans c2) J (Mvs.sq o M y2) ((m.trans m2).Bp0 fun b=>?_) (row.frame fun y=>c2.k.get _ (c1.hb _ _ (row.block y)) fun w=>w (U y));rw[fH,aD a,bJ];simp
  ·have:decide ((i:Int)<(N.length:Int))=false:=by simp;omega
   simp only[this,Ab,Adp];have ei:i=N.length:=by omega
   subst ei;rw[cO]at m;refine Ok.Ap (Aj8 A hK c1.C o (by omega) (by omega) (d:=d) (by omega)) ?_;rintro _ h2 ⟨rfl,Z,c2,J,O⟩;refine .ret ⟨rfl,Z,mt',c1.trans c2,J,M.es O.es,?_⟩;exact c.Bl3 o P (by rw[g]) (by rw[g]at m⊢;exact m) O
theorem A8a(C:Dw h B X F)(c:Cc X L mt)(sq:Sq X)(hd:24<=d){z:Int}(g:X.closed z=true)(G:Rng z)(m:((blN z X.es X.es.length).length:Int)<=X.S.free)(H:X.gen<281474976710655)(o:X.nx+(blN z X.es X.es.length).length<=281474976710655):Ok (Ag TT disp K d false 27 [.ptr B.c 0,I z] h) fun v h'=>v=I 0/\∃Y mt',Ey h h' B X F Y/\Cc Y L mt'/\Sq Y/\Cln X Y z (blN z X.es X.es.length).length:=by
 obtain⟨e,rfl⟩:∃k,d=k+1:=⟨d-1,by omega⟩;rw[Aci A (by omega)];simp only[Abm,Ab];refine Ok.Ap (Ao6 A hK C (d:=e) (by omega) G) ?_;rintro _ h2 ⟨rfl,J⟩;have c2:=C.rd J;rw[g];simp only[Ab,Aee];refine Ok.Ap (Bdx A hK c2.C (d:=e) (by omega) z) ?_;rintro v p ⟨u,q,row,lq⟩;have bl:=Biq z X.es X.es.length;have el:=C.Bkb;have M:blN z X.es X.es.length=blN z X.es X.es.length:=rfl;revert M;generalize a:blN z X.es X.es.length=N at row lq bl m o⊢;intro _;rw[row.H5];have O:Dw p B X (fun i=>F i\/(0<N.length/\i=q)):=by
  obtain⟨⟨T,k,t⟩,_⟩:=u;refine(c2.C.kp k).less fun i f=>?_
  rcases f with f|⟨E,rfl⟩
  ·exact .inl f
  ·exact .inr ⟨lq E,(k.chg.hb c2.C.hb) _ _ (row.block E)⟩
 have:=A2f A hK (F:=fun i=>F i\/(0<N.length/\i=q)) c sq g (d:=e) (by omega) (s:=v) (q:=q) (N:=N) a.symm (by omega) m H o (fun y=>.inr ⟨y,rfl⟩) K 0 p X mt (by omega) (by omega) (Ey.refl O) c sq ((Mvs.refl X).Bp0 fun b=>by simp) row;refine Ok.mono this ?_;rintro _ h4 ⟨rfl,Y,mt',c4,P,Q,k⟩;have c4:=c4.less (F:=F) fun i=>.inl
 exact⟨rfl,Y,mt',(c2.trans (c2.C.rd u)).trans c4,P,Q,k⟩
theorem Bja(C:Dw h B X F)(hd:24<=d){z:Int}(a:X.closed z=false)(b:Rng z):Ok (Ag TT disp K d false 27 [.ptr B.c 0,I z] h) fun v h'=>v=I 13/\Ey h h' B X F X:=by
 obtain⟨e,rfl⟩:∃k,d=k+1:=⟨d-1,by omega⟩;rw[Aci A (by omega)];simp only[Abm,Ab];refine Ok.Ap (Ao6 A hK C (d:=e) (by omega) b) ?_;rintro _ h2 ⟨rfl,f⟩;have c2:=C.rd f;rw[a];simp only[Ab];exact .ret ⟨rfl,c2⟩
end
end
section
theorem A06:X.J9 (n+1)=if X.Aq3 n=true/\(X.J9 n = -1\/X.live n<X.live (X.J9 n))then(n:Int)else X.J9 n:=rfl
theorem Bb2:∀n:Nat,X.J9 n = -1->∀z:Nat,z<n->X.Aq3 z=false
 | 0,_,z,a=>by omega
 | n+1,h,z,a=>by
  rw[A06]at h;split at h
  ·omega
  ·rename_i b
   rcases cU z n with y|y
   ·exact Bb2 n h z y
   ·have:z=n:=by omega
    subst this;cases e:X.Aq3 z with
    | false=>rfl
    | true=>exact absurd ⟨e,.inl h⟩ b
theorem A6o:∀n:Nat,¬X.J9 n = -1->X.Aq3 (X.J9 n)=true
 | 0,h=>absurd rfl h
 | n+1,h=>by
  rw[A06]at h⊢;split
  ·rename_i a;exact a.1
  ·rename_i a
   rw[aF a]at h;exact A6o n h
theorem Bnx {g:Gm}(a:rtB g=true):1<=g.segments/\g.Dz+8<=g.D*g.Z:=by
 have s:=Oj a;have:=s.d0;have:=s.z0;have:=s.s0;have:=s.b0;have:=s.p0;have i:2*g.B<=g.S*g.segments:=by
  unfold rtB at a;simp only[aV,aU]at a;exact a.2.2
 have b:1<=g.segments:=by
  rcases gC 0 g.segments with y|y
  ·exact y
  ·have:=dP (show 0<=g.S by omega) (show 0<=-g.segments by omega)
   rw[Int.mul_neg]at this;omega
 refine⟨b,?_⟩;have e:0<=g.D*g.P:=dP (by omega) (by omega);have e1:g.D*(g.Z-g.P-2)=g.D*g.Z-g.D*g.P-2*g.D:=by rw[Int.mul_sub,Int.mul_sub];omega
 unfold Gm.segments at b;have f:g.least<=g.D*(g.Z-g.P-2)-2*g.Dz+1:=by unfold Gm.least;omega
 unfold Gm.Dz at *;omega
theorem Cc.rng(C:Cc X L mt){z:Int}(e:X.closed z=true):0<=z/\z<X.S.g.D*X.S.g.Z:=by
 have:=(Ew.1 e).1;rcases I9 C.c.sm z with y|⟨_,_,_,a,b⟩
 ·omega
 ·exact⟨a,b⟩
theorem Cc.X5(C:Cc X L mt){z:Int}(a:X.closed z=true):Go.Ev.X5 X.S.g X.es z=Jt X.es z:=by
 unfold Go.Ev.X5;rw[aH (C.rng a)]
theorem Cc.whole(C:Cc X L mt)(z:Int):Aba X.S z X.es=true:=by
 unfold Aba;rw[dN];intro x _;have:Ato X.S x=true:=by
  unfold Ato;rw[C.Ex,C.Ex];rfl
 rw[this,Bool.or_true]
theorem Cc.full(C:Cc X L mt)(f:X.J9 (X.S.g.D*X.S.g.Z).toNat = -1){z:Int}(e:X.closed z=true):X.S.g.S<2*Jt X.es z:=by
 obtain⟨a,b⟩:=C.rng e;have h:=Bb2 _ f z.toNat (by omega);rw[show((z.toNat:Nat):Int)=z by omega]at h;unfold Co.Aq3 Co.live at h;rw[e,C.whole,C.X5 e,Bool.and_true,bA,cZ]at h;omega
theorem Cc.Bnt(C:Cc X L mt)(a:¬X.J9 (X.S.g.D*X.S.g.Z).toNat = -1):X.closed (X.J9 (X.S.g.D*X.S.g.Z).toNat)=true/\2*Jt X.es (X.J9 (X.S.g.D*X.S.g.Z).toNat)<=X.S.g.S:=by
 have h:=A6o _ a;unfold Co.Aq3 Co.live at h;simp only[aV,aU]at h;refine⟨h.1,?_⟩;rw[<-C.X5 h.1];exact h.2.1
theorem Cc.Bnb(C:Cc X L mt)(p:∀z,X.closed z=true->X.S.g.S<2*Jt X.es z):X.S.g.Dz<=Fh X.S.ps X.S.g.D.toNat:=by
 rcases gC (Fh X.S.ps X.S.g.D.toNat) X.S.g.Dz with y|y
 ·have d0:=C.c.sm.d0
  refine(A42 C.c.rt (closed:=X.closed) (es:=X.es) (ps:=X.S.ps) (ar:=[X.cur 0,X.Bt 0,X.cur 1,X.Bt 1,X.cur 2,X.Bt 2]) (op:=[X.S.a,X.S.b]) (by simp) (by simp) (fun d hd=>?_) (fun z q=>?_) p C.lb y).elim
  ·have f:=C.ar 0 (by omega);have m:=C.ar 1 (by omega);have o:=C.ar 2 (by omega)
   simp only[eJ,List.filter_nil,f.1,f.2.1,m.1,m.2.1,o.1,o.2.1];rcases cU d 3 with y|y
   ·rcases(by omega:d=0\/d=1\/d=2)with rfl|rfl|rfl<;>simp<;>omega
   ·have e:∀k:Nat,k<3->decide (¬((k:Int)=(d:Int)))=true:=fun k t=>by simp;omega
    have e0:=e 0 (by omega);have e1:=e 1 (by omega);have e2:=e 2 (by omega);rw[e0,e1,e2];simp;omega
  ·rcases C.cover q with y|y|⟨i,u,y⟩|y|y
   ·exact .inl y
   ·exact .inr (.inl y)
   ·refine .inr (.inr (.inl ?_))
    rcases(by omega:i=0\/i=1\/i=2)with rfl|rfl|rfl<;>rcases y with y|y<;>simp[y]
   ·exact .inr (.inr (.inr (by simp[y])))
   ·exact .inr (.inr (.inr (by simp[y])))
 ·exact y
theorem Cc.Aye(C:Cc X L mt):X.S.g.S*Fh X.S.ps X.S.g.D.toNat<=X.S.free/\X.S.free<=X.S.g.S*Fh X.S.ps X.S.g.D.toNat+X.S.g.S:=by
 have:=C.c.Atn;unfold Mi.free;omega
end
section
def Co.Alq(X:Co):Nat->Bool
 | 0=>false
 | n+1=>X.Alq n||X.dead n
theorem Bbl:∀n:Nat,X.Alq n=false->∀z:Nat,z<n->X.dead z=false
 | 0,_,z,a=>by omega
 | n+1,h,z,a=>by
  unfold Co.Alq at h;rw[Bool.or_eq_false_iff]at h;rcases cU z n with y|y
  ·exact Bbl n h.1 z y
  ·have:z=n:=by omega
   subst this;exact h.2
theorem A6i:∀n z:Nat,z<n->X.dead z=true->X.Alq n=true
 | 0,z,a,_=>by omega
 | n+1,z,a,h=>by
  unfold Co.Alq;rw[dR];rcases cU z n with y|y
  ·exact .inl (A6i n z y h)
  ·have:z=n:=by omega
   subst this;exact .inr h
section
theorem A61(A:Bv disp)(hK:10000<K)(y:X.S.g.D*X.S.g.Z=n)(hd:9<=d):∀(f i:Nat) (h:Aa),n-i<f->i<=n->X.Alq i=false->Dw h B X F ->
 Ok (Mg (Ag TT disp K d false) (Ag TT disp K d true) K f (.ptr B.c 0) (I n) (I i) h) fun v h'=>v=.bool (X.Alq n)/\Qt F h h':=by
 intro f;induction f with
 | zero=>intro i h q;omega
 | succ f t=>
  intro i h q E p C;have bd:=C.sm.Ah7;rw[Mg];simp only[I,Ac];by_cases m:i<n
  ·have:decide ((i:Int)<(n:Int))=true:=by simp;omega
   simp only[this,Ab,Agt];refine(Bby A hK C hd (z:=i) ⟨by omega,by omega⟩).Ap ?_;rintro _ h2 ⟨rfl,o⟩;cases b:X.dead i with
   | true=>
    simp only[Ab];exact .ret ⟨by rw[A6i n i m b],o⟩
   | false=>
    simp only[Ab,Agj,Ac];rw[Cq,show((i:Nat):Int)+1=((i+1:Nat):Int) by omega];refine(t (i+1) h2 (by omega) (by omega) (by unfold Co.Alq;rw[p,b];rfl) (C.rd o).C).mono ?_;rintro v G ⟨a,u⟩;exact⟨a,o.trans u⟩
  ·have:decide ((i:Int)<(n:Int))=false:=by simp;omega
   have e:i=n:=by omega
   subst e;simp only[this,Ab,Agl];exact .ret ⟨by rw[p],Qt.refl C.hb⟩
theorem Bor(A:Bv disp)(hK:10000<K)(C:Dw h B X F)(hd:10<=d):Ok (Ag TT disp K d false 81 [.ptr B.c 0] h) fun v h'=>v=.bool (X.Alq (X.S.g.D*X.S.g.Z).toNat)/\Qt F h h':=by
 obtain⟨e,rfl⟩:∃k,d=k+1:=⟨d-1,by omega⟩;rw[Ar4 A (by omega)];simp only[Am9,Ab];rw[C.ldM];refine Aib A C fun h2 b=>?_
 have bd:=C.sm.Ah7;obtain⟨n,f⟩:=a8 (show 0<=X.S.g.D*X.S.g.Z by omega);rw[f,bD];refine(A61 A hK f (d:=e) (by omega) K 0 h2 (by omega) (by omega) rfl (C.toE b).C).mono ?_;rintro v m ⟨a,i⟩;exact⟨a,(Qt.ext b C.hb).trans i⟩
structure Tdy(X Y:Co)(k:Nat):Prop where
 len:Y.es.length=X.es.length
 gen:X.gen<=Y.gen/\Y.gen<=X.gen+k
 nx:X.nx<=Y.nx/\Y.nx<=X.nx+64*k
 nm:Y.ep=X.ep/\Y.st=X.st
 g:Y.S.g=X.S.g
 free:X.S.free<=Y.S.free
theorem Tdy.refl(X:Co):Tdy X X 0:=⟨rfl,⟨cY _,by simp⟩,⟨cY _,by simp⟩,⟨rfl,rfl⟩,rfl,cY _⟩
theorem Tdy.trans {Z:Co}{l:Nat}(a:Tdy X Y k)(b:Tdy Y Z l):Tdy X Z (k+l):=by
 have e:=a.gen;have b1:=b.gen;have f:=a.nx;have b2:=b.nx;have i:=a.free;have b3:=b.free;exact⟨b.len.trans a.len,by omega,by omega,⟨b.nm.1.trans a.nm.1,b.nm.2.trans a.nm.2⟩,b.g.trans a.g,by omega⟩
theorem Tdy.more{l:Nat}(a:Tdy X Y k)(h:k<=l):Tdy X Y l:=by
 have b:=a.gen;have e:=a.nx;exact⟨a.len,by omega,by omega,a.nm,a.g,a.free⟩
theorem Ckp.tdy(k:Ckp X Y)(c:Cc X L mt):Tdy X Y 1:=by
 have:=k.nm;exact⟨by rw[k.es],by omega,by omega,⟨k.nm.2.1,k.nm.2.2.2⟩,k.g,(k.free c).1⟩
theorem Cln.tdy{z:Int}(k:Cln X Y z n)(c:Cc X L mt)(a:(n:Int)<=X.S.g.S):Tdy X Y 1:=by
 have:=k.nm;have:=c.c.sm.s1;have:=c.c.sm.s0;have f:=k.free;refine⟨k.len,by omega,by omega,⟨k.nm.2.1,k.nm.2.2.2⟩,k.g,?_⟩;rcases dC n with y|y
 ·subst y;omega
 ·have:=f.2 y;omega
def Idl(X:Co):Prop:=X.Alq (X.S.g.D*X.S.g.Z).toNat=false/\X.J9 (X.S.g.D*X.S.g.Z).toNat = -1
theorem Bay(h:∀z,X.dead z=false):∀n,X.Alq n=false
 | 0=>rfl
 | n+1=>by unfold Co.Alq;rw[Bay h n,h];rfl
theorem Cc.Alq(c:Cc X L mt)(h:X.Alq (X.S.g.D*X.S.g.Z).toNat=false)(z:Int):X.dead z=false:=by
 cases hd:X.dead z with
 | false=>rfl
 | true=>
  obtain⟨a,b⟩:=c.rng (Wi.1 hd).1;have:=Bbl _ h z.toNat (by omega);rw[show((z.toNat:Nat):Int)=z by omega,hd]at this;exact this
variable (A:Bv disp)(hK:10000<K)
include A hK
theorem Boy(C:Dw h B X F)(c:Cc X L mt)(sq:Sq X)(G:X.S.g.S<=X.S.free)(i:X.gen<281474976710655)(H:X.nx+64<=281474976710655)(hd:25<=d):Ok (Ag TT disp K d false 34 [.ptr B.c 0] h) fun v h'=>∃(b:Bool) (Y:Co) (mt':Int->Int),v=.tuple [.bool b,I 0]/\Ey h h' B X F Y/\Cc Y L mt'/\Sq Y /\
 ((b=false/\Y=X/\Idl X)\/(b=true/\¬Idl X/\Tdy X Y 1/\(∀z,Y.dead z=false)/\(X.Alq (X.S.g.D*X.S.g.Z).toNat=false->2*X.S.free+X.S.g.S<=2*Y.S.free))):=by
 obtain⟨e,rfl⟩:∃k,d=k+1:=⟨d-1,by omega⟩;rw[Arl A (by omega)];simp only[Amr,Ab];refine Ok.Ap (Bor A hK C (d:=e) (by omega)) ?_;rintro _ h2 ⟨rfl,p⟩;have c2:=C.rd p;unfold Idl;cases q:X.Alq (X.S.g.D*X.S.g.Z).toNat with
 | true=>
  simp only[Ab];refine Ok.Ap (Aj8 A hK c2.C c i (by omega) (d:=e) (by omega)) ?_;rintro _ t ⟨rfl,Y,c3,a,k⟩;exact .ret ⟨true,Y,mt,rfl,c2.trans c3,a,sq.es k.es,.inr ⟨rfl,(fun y=>by cases y.1),k.tdy c,k.dead,fun y=>by cases y⟩⟩
 | false=>
  simp only[Ab,Afo];refine Ok.Ap (Bda A hK c2.C (d:=e) (by omega)) ?_;rintro _ t ⟨rfl,u⟩;have c3:=c2.trans (c2.C.rd u);have m:=Bgq A hK C (d:=0);have o:=fun y=>c.Bnt y
  generalize X.J9 (X.S.g.D*X.S.g.Z).toNat=z at m o⊢;simp only[I,Ac];by_cases f:z = -1
  ·simp only[f,aB,Ab]
   exact .ret ⟨false,X,mt,rfl,c3,c,sq,.inl ⟨by trivial,by trivial,by trivial,by trivial⟩⟩
  ·obtain⟨v1,v2⟩:=o f
   have J:=Bks z X.es;have s0:=c.c.sm.s0;have s1:=c.c.sm.s1;have dz:=c.Alq q z;simp only[f,aA,Ab,Agq];refine Ok.Ap (A8a A hK c3.C c sq (d:=e) (by omega) v1 m (by omega) i (by omega)) ?_;rintro _ h4 ⟨rfl,Y,mt',c4,a,E,k⟩;refine .ret ⟨true,Y,mt',rfl,c3.trans c4,a,E,.inr ⟨rfl,(fun y=>y.2),k.tdy c (by omega),k.dd,fun _=>?_⟩⟩;have np:0<(blN z X.es X.es.length).length:=by
    rcases dC (blN z X.es X.es.length).length with y|y
    ·have:X.dead z=true:=Wi.2 ⟨v1,by rw[c.X5 v1];omega⟩
     rw[this]at dz;cases dz
    ·exact y
   have:=k.free.2 np;omega
end
end
section
noncomputable def Co.prs(X:Co):Int:=Fh X.S.ps X.S.g.D.toNat
section
variable (A:Bv disp)(hK:10000<K)
include hK in
theorem At8(C:Dw h B X F){k:EV->Aa->R}{Q:EV->Aa->Prop}(a:∀h',Ext h h'->Ok (k (.int .i64 X.prs) h') Q):Ok (Ap (Ci K (.ptr B.m 0) h) fun v h=>Ap (Gw K v h) k) Q:=
 Bfu hK C.M C.hb fun h' x=>a h' x
include A hK
omit A in
theorem Bdf {a:Aa}(c1:Ey h a B X F Y)(hp:¬Y.prs=0)(n:Int)(d:Nat):Ok (Mt (Ag TT disp K d false) (Ag TT disp K d true) K (.ptr B.c 0) (I n) a) fun v h'=>v=I 0/\Ey h h' B X F Y:=by
 simp only[Mt,Ab];rw[c1.C.ldM];refine At8 hK c1.C fun h2 b=>?_
 have c2:=c1.trans (c1.C.toE b);have e:Fa (.tuple []) false=false/\Fa (.tuple []) true=false:=⟨rfl,rfl⟩;simp only[I,Ac,hp,aA,Ab,Agg,Agk];exact .ret ⟨rfl,c2⟩
structure Rm(X Y:Co)(n:Int):Prop where
 t:Tdy X Y 1024
 same:n<=X.prs->Y=X
 res:n<=X.S.g.Dz->n<=Y.prs
omit A hK in
theorem Cc.prs(c:Cc X L mt):X.S.g.S*X.prs<=X.S.free/\X.S.free<=X.S.g.S*X.prs+X.S.g.S:=c.Aye
omit A hK in
theorem Cc.Bij(c:Cc X L mt){k:Int}(h:X.S.g.S*k+X.S.g.S<X.S.free+1):k<=X.prs:=by
 have p:=c.prs.2;have s0:=c.c.sm.s0;rcases gC X.prs k with y|y
 ·have:X.S.g.S*(X.prs+1)<=X.S.g.S*k:=bP y (by omega)
  rw[Int.mul_add,Int.mul_one]at this;omega
 ·exact y
theorem A7v(c:Cc X L mt)(P:3*X.S.g.S<=X.S.free)(hg:X.gen+1024<=281474976710655)(hx:X.nx+65600<=281474976710655)(hd:25<=d){n:Int}{N:Nat}(Q:n<=X.S.g.D*X.S.g.Z)(T:2*(X.S.g.D*X.S.g.Z)=N)(U:N<=1024)(np:¬n<=X.prs):∀(f i:Nat) (p:Aa) (Y:Co) (mt':Int->Int),N-i<f->i<=N->Ey h p B X F Y->Cc Y L mt'->Sq Y->Tdy X Y i->(0<i->Y.Alq (X.S.g.D*X.S.g.Z).toNat=false/\2*X.S.free+((i:Int)-1)*X.S.g.S<=2*Y.S.free) ->
 Ok (J4 (Ag TT disp K d false) (Ag TT disp K d true) K f (.ptr B.c 0) (I n) (I N) (I i) p) fun v h'=>v=I 0/\∃Z mt',Ey h h' B X F Z/\Cc Z L mt'/\Sq Z/\Rm X Z n:=by
 have s0:=c.c.sm.s0;intro f;induction f with
 | zero=>intro i p Y mt' P;omega
 | succ f V=>
  intro i p Y mt' W hi c1 a E t M;rw[J4];have o:=t.g;have tf:=t.free;have p2:2<=Y.prs:=a.Bij (by rw[o];omega);have fin:∀(h2:Aa),Ey h h2 B X F Y->(n<=X.S.g.Dz->n<=Y.prs)->Ok (Mt (Ag TT disp K d false) (Ag TT disp K d true) K (.ptr B.c 0) (I n) h2) fun v h'=>v=I 0/\∃Z mt',Ey h h' B X F Z/\Cc Z L mt'/\Sq Z/\Rm X Z n:=fun h2 c2 u=>by
   refine(Bdf hK c2 (by omega) n d).mono ?_;rintro _ G ⟨rfl,c3⟩;exact⟨rfl,Y,mt',c3,a,E,t.more (by omega),fun y=>absurd y np,u⟩
  simp only[I,Ac];by_cases aa:i<N
  ·have:decide ((i:Int)<(N:Int))=true:=by simp;omega
   simp only[this,Ab,Wk];rw[c1.C.ldM];refine At8 hK c1.C fun h2 x2=>?_
   have c2:=c1.trans (c1.C.toE x2);simp only[Ac];by_cases hp:n<=Y.prs
   ·simp only[hp,aB,Ab]
    exact .ret ⟨rfl,Y,mt',c2,a,E,t.more (by omega),fun y=>absurd y np,fun _=>hp⟩
   simp only[hp,aA,Ab,Af4];have tn:=t.nx;have ad:=t.gen;refine Ok.Ap (Boy A hK c2.C a E (by rw[o];omega) (by omega) (by omega) hd) ?_;rintro _ G ⟨b,Z,H,rfl,c3,cz,sz,w⟩;have q:=c2.trans c3;have af:Fa (.tuple []) false=false/\Fa (.tuple []) true=false:=⟨rfl,rfl⟩;simp only[Ab,I,Ac];rw[show decide ((0:Int)=34)=false from rfl];simp only[Ab,Agu];rcases w with⟨rfl,rfl,id⟩|⟨rfl,id,t2,dd,w2⟩
   ·simp only[Ab,Ac,Wo]
    refine fin G q fun u=>?_
    rw[<-congrArg Gm.Dz o]at u;exact Int.le_trans u (a.Bnb fun z hz=>a.full id.2 hz)
   ·simp only[aC,aA,Ab,Ac,Wo,Af8]
    rw[Cq,show((i:Nat):Int)+1=((i+1:Nat):Int) by omega];have t3:=t.trans t2;refine V (i+1) G Z H (by omega) (by omega) q cz sz t3 fun _=>⟨Bay dd _,?_⟩
    have f2:=t2.free;rw[show(((i+1:Nat):Int)-1)=(i:Int) by omega];rcases dC i with y|y
    ·subst y;simp;omega
    ·obtain⟨O,J⟩:=M y
     rw[<-o]at O;have:=w2 O;rw[o]at this;rw[Int.sub_mul,Int.one_mul]at J;omega
  ·have:decide ((i:Int)<(N:Int))=false:=by simp;omega
   simp only[this,Ab];refine fin p c1 fun _=>?_
   have e:i=N:=by omega
   have all:=c.c.sm.Ah7;obtain⟨_,J⟩:=M (by omega);refine a.Bij ?_;rw[o];have m:X.S.g.S*n<=X.S.g.S*(X.S.g.D*X.S.g.Z):=bP Q (by omega);rw[e,<-T,Int.sub_mul,Int.one_mul,Int.mul_assoc,Int.mul_comm (X.S.g.D*X.S.g.Z) X.S.g.S]at J;omega
theorem Bj2(C:Dw h B X F)(c:Cc X L mt)(sq:Sq X)(m:3*X.S.g.S<=X.S.free)(o:X.gen+1024<=281474976710655)(p:X.nx+65600<=281474976710655)(hd:26<=d){n:Int}(h0:0<=n)(q:n<=X.S.g.D*X.S.g.Z):Ok (Ag TT disp K d false 20 [.ptr B.c 0,I n] h) fun v h'=>v=I 0/\∃Z mt',Ey h h' B X F Z/\Cc Z L mt'/\Sq Z/\Rm X Z n:=by
 obtain⟨e,rfl⟩:∃k,d=k+1:=⟨d-1,by omega⟩;rw[Ael A (by omega)];simp only[Ad5,Ab,I,Ac];have t:Fa (.tuple []) false=false/\Fa (.tuple []) true=false:=⟨rfl,rfl⟩;have a:¬n<0:=by omega
 simp only[a,aA,Ab,Ac];rw[C.ldM];refine Aib A C fun h2 u=>?_
 have c2:=C.toE u;have E:¬X.S.g.D*X.S.g.Z<n:=by omega
 simp only[I,Ac,E,aA,Ab,Po,Ad8];rw[c2.C.ldM];refine Aib A c2.C fun G H=>?_
 have c3:=c2.trans (c2.C.toE H);have bd:=C.sm.Ah7;obtain⟨N,f⟩:=a8 (show 0<=2*(X.S.g.D*X.S.g.Z) by omega);simp only[I,Ac];rw[Cq,f];by_cases np:n<=X.prs
 ·
  have i:K=(K-1)+1:=by omega
  rw[i,J4,<-i];simp only[I,Ac];have b:decide ((0:Int)<(N:Int))=true:=by simp;omega
  simp only[b,Ab,Wk];rw[c3.C.ldM];refine At8 hK c3.C fun h4 J=>?_
  have c4:=c3.trans (c3.C.toE J);simp only[Ac,np,aB,Ab];exact .ret ⟨rfl,X,mt,c4,c,sq,(Tdy.refl X).more (by omega),fun _=>rfl,fun _=>np⟩
 ·exact A7v A hK c m o p (d:=e) (by omega) q f (by omega) np K 0 G X mt (by omega) (by omega) c3 c sq (Tdy.refl X) fun y=>by omega
omit hK in
theorem Bmp(C:Dw h B X F)(hd:26<=d){n:Int}(i:n<0\/X.S.g.D*X.S.g.Z<n):Ok (Ag TT disp K d false 20 [.ptr B.c 0,I n] h) fun v h'=>v=I 13/\Ey h h' B X F X:=by
 obtain⟨e,rfl⟩:∃k,d=k+1:=⟨d-1,by omega⟩;rw[Ael A (by omega)];simp only[Ad5,Ab,I,Ac];have a:Fa (.tuple []) false=false/\Fa (.tuple []) true=false:=⟨rfl,rfl⟩;by_cases h0:n<0
 ·simp only[h0,aB,Ab,Ac,Po]
  exact .ret ⟨rfl,Ey.refl C⟩
 simp only[h0,aA,Ab,Ac];rw[C.ldM];refine Aib A C fun h2 b=>?_
 have c2:=C.toE b;simp only[I,Ac];have f:X.S.g.D*X.S.g.Z<n:=by omega
 simp only[f,aB,Ab,Ac,Po];exact .ret ⟨rfl,c2⟩
theorem Aup(C:Dw h B X F)(c:Cc X L mt)(sq:Sq X)(a:3*X.S.g.S<=X.S.free)(b:X.gen+1024<=281474976710655)(f:X.nx+65600<=281474976710655)(hd:27<=d):Ok (Ag TT disp K d false 77 [.ptr B.c 0] h) fun v h'=>v=I 0/\∃Z mt',Ey h h' B X F Z/\Cc Z L mt'/\Sq Z/\Rm X Z X.S.g.Dz:=by
 obtain⟨e,rfl⟩:∃k,d=k+1:=⟨d-1,by omega⟩;rw[Amb A (by omega)];simp only[Ag8,Ab];rw[C.ldM];refine Ok.Ap (O0 (K:=K) C.M C.hb) ?_;rintro _ h2 ⟨rfl,i⟩;rw[Abj C.sm,As];have c3:=C.toE (i.Df (.cells (gL X.S.g) 23));have p:=(Bnx c.c.rt).2;have m:0<=X.S.g.Dz:=by
  have:=dP (show 0<=X.S.g.D by have:=c.c.sm.d0;omega) c.c.sm.p0;unfold Gm.Dz;omega
 refine Ok.Ap (Bj2 A hK c3.C c sq a b f (d:=e) (by omega) m (by omega)) ?_;rintro _ h4 ⟨rfl,Z,mt',c4,o,sz,r⟩;exact .ret ⟨rfl,Z,mt',c3.trans c4,o,sz,r⟩
omit A hK in
theorem Rm.Boa(a:Cc Y L mt')(r:Rm X Y X.S.g.Dz):4*X.S.g.S<=Y.S.free:=by
 have p:=r.res (cY _);have q:=a.prs.1;have s:=a.c.sm;have s0:=s.s0;have d0:=s.d0;have p0:=s.p0;rw[r.t.g]at q s0 d0 p0;have b:4<=X.S.g.Dz:=by
  have:=dP (show 0<=X.S.g.D by omega) p0;unfold Gm.Dz;omega
 have:X.S.g.S*4<=X.S.g.S*Y.prs:=bP (by omega) (by omega);omega
end
end
section
structure Jc(X:Co)(L:List (List Nat))(mt:Int->Int):Prop where
 c:Cc X L mt
 sq:Sq X
 fr:3*X.S.g.S<=X.S.free
structure Opd(X Y:Co):Prop where
 g:Y.S.g=X.S.g
 nm:Y.ep=X.ep/\Y.st=X.st
 gen:X.gen<=Y.gen/\Y.gen<=X.gen+1100
 nx:X.nx<=Y.nx/\Y.nx<=X.nx+70000
theorem Opd.refl(X:Co):Opd X X:=⟨rfl,⟨rfl,rfl⟩,by omega,by omega⟩
theorem Tdy.opd(t:Tdy X Y 1024):Opd X Y:=by
 have a:=t.gen;have b:=t.nx;exact⟨t.g,t.nm,by omega,by omega⟩
theorem Baw {es:List Me}{j:Int}(h:¬(0<=j/\j<es.length)):An2 es j=(Me.nil 0,13):=by unfold An2;rw[aF h]
theorem Mvs.opd {Z:Co}(t:Tdy X Y 1024)(m:Mvs Y Z D k)(e:k<=4):Opd X Z:=by
 have a:=t.gen;have b:=t.nx;have n:=m.nm;exact⟨m.g.trans t.g,⟨n.2.1.trans t.nm.1,n.2.2.2.trans t.nm.2⟩,by omega,by omega⟩
section
variable (A:Bv disp)(hK:10000<K)
include A hK
theorem A5a(C:Dw h B X F)(J:Jc X L mt)(hg:X.gen+1100<=281474976710655)(hx:X.nx+70000<=281474976710655)(hd:28<=d)(j:Int):Ok (Ag TT disp K d false 59 [.ptr B.c 0,I j] h) fun v h'=>∃(e:Int) (Y:Co) (mt':Int->Int),v=I e/\Ey h h' B X F Y/\Jc Y L mt'/\Opd X Y/\(¬e=0->e=13/\Y=X):=by
 obtain⟨e,rfl⟩:∃k,d=k+1:=⟨d-1,by omega⟩;rw[Aqt A (by omega)];simp only[An5,Ab];rw[C.ldB];refine Ok.Ap (Uq (K:=K) C.sm C.map C.hb j) ?_;rintro _ h2 ⟨rfl,S⟩;have c2:=C.toE S;simp only[Ab];by_cases hj:0<=j/\j<X.es.length
 case neg=>
  rw[Baw hj];simp only;refine Ok.mk rfl rfl fun T p e3 _=>?_
  have c3:=c2.trans (c2.C.toE p);have q:Fa (.tuple []) false=false/\Fa (.tuple []) true=false:=⟨rfl,rfl⟩;simp only[I,Ac];have f:¬(13:Int)=0:=by decide
  simp only[f,aN,aB,Ab,Ac,Qs];exact .ret ⟨13,X,mt,rfl,c3,J,Opd.refl X,fun _=>⟨rfl,rfl⟩⟩
 obtain⟨b,rfl⟩:=a8 hj.1;have i:=aD (show b<X.es.length by omega);rw[Axe i];simp only;generalize X.es[b]=x at i⊢;refine Ok.mk rfl rfl fun T p e3 _=>?_
 have c3:=c2.trans (c2.C.toE p);have q:Fa (.tuple []) false=false/\Fa (.tuple []) true=false:=⟨rfl,rfl⟩;simp only[I,Ac,aC,aA,Ab];rw[Al e3 rfl (v:=I x.state) rfl];simp only[I,Ac];by_cases O:x.state=1
 case neg=>
  simp only[O,aN,aB,Ab,Ac,Qs];exact .ret ⟨0,X,mt,rfl,c3,J,Opd.refl X,fun y=>absurd rfl y⟩
 simp only[O,aC,aA,Ab,Ac,Qs,Afx];refine Ok.Ap (Aup A hK c3.C J.c J.sq J.fr (by omega) (by omega) (d:=e) (by omega)) ?_;rintro _ h5 ⟨rfl,Y,mt',a,o,P,r⟩;have a:=c3.trans a;have mu:=r.Boa o;have s0:=J.c.c.sm.s0;have tn:=r.t.nx;simp only[I,Ac,aC,aA,Ab,Af5];have u:b<Y.es.length:=by rw[r.t.len];omega
 have E:=aD u;generalize Y.es[b]=y at E;by_cases Q:y.state=1
 ·refine Ok.Ap (Bgn A hK a.C o E Q (by omega) (by omega) (d:=e) (by omega)) ?_
  rintro _ U ⟨rfl,Z,G,H,V,m,W⟩;have mg:=m.g;have M:=r.t.g;have mf:=m.free;exact .ret ⟨0,Z,G,rfl,a.trans H,⟨V,Mvs.sq o P W,by rw[mg,M];omega⟩,Mvs.opd r.t m (by omega),fun y=>absurd rfl y⟩
 ·refine Ok.Ap (Bdh A a.C E Q (d:=e) (by omega)) ?_
  rintro _ U ⟨rfl,H⟩;have M:=r.t.g;exact .ret ⟨0,Y,mt',rfl,a.trans H,⟨o,P,by rw[M];omega⟩,r.t.opd,fun y=>absurd rfl y⟩
theorem A2g(C:Dw h B X F)(J:Jc X L mt)(hd:15<=d):Ok (Ag TT disp K d false 60 [.ptr B.c 0] h) fun v h'=>v=I 0/\∃Y,Ey h h' B X F Y/\Jc Y L mt/\Opd X Y/\Y.gen=X.gen/\Y.nx=X.nx:=by
 obtain⟨e,rfl⟩:∃k,d=k+1:=⟨d-1,by omega⟩;rw[Apm A (by omega)];simp only[Alj,Ab];rw[C.ldM];obtain⟨D,V,dr⟩:=Agx A hK C.M C.hb;rw[dr.Dr];have b:=Akk J.c.c.ev J.c.c.up;refine Ok.Ap (dr.flush (d:=e) (by omega)) ?_;rintro v m ⟨rfl,g,kf,f⟩;have c1:=C.H9 g kf f (Ba2 (Asc _));have i:Dq X.S { X.S with dr:=X.S.dr.flush.1 } fun _=>False:=by rw[b];exact Dq.Q3 J.c.c
 have a:=J.c.dq i (fun _ _ y=>y.elim) fun _ _ _=>⟨id,id⟩
 rw[b];rw[b]at c1 a;exact .ret ⟨rfl,_,c1,⟨a,J.sq.es rfl,J.fr⟩,⟨rfl,⟨rfl,rfl⟩,⟨cY _,by show X.gen<=_;omega⟩,⟨cY _,by show X.nx<=_;omega⟩⟩,rfl,rfl⟩
def A04(L:List (List Nat))(b:Nat):Nat->List (List Nat)
 | 0=>L
 | n+1=>(A04 L b n).set (b+n) (List.replicate 32 0)
def Av7(es:List Me)(b:Nat):Nat->List Me
 | 0=>es
 | n+1=>(Av7 es b n).set (b+n) (Me.nil 0)
omit A hK in
theorem Au2(es:List Me)(b:Nat):∀n,(Av7 es b n).length=es.length
 | 0=>rfl
 | n+1=>by unfold Av7;rw[bM,Au2 es b n]
omit A hK in
theorem A49(es:List Me)(b:Nat):∀(n j:Nat),j<es.length->(Av7 es b n)[j]? = if b<=j/\j<b+n then some (Me.nil 0)else es[j]?
 | 0,j,hj=>by rw[aF (by omega)];rfl
 | n+1,j,hj=>by
  unfold Av7;rw[dH,Au2,A49 es b n j hj];by_cases h:b+n=j
  ·subst h
   rw[aH rfl,aH hj,aH (by omega)]
  ·rw[aF h]
   by_cases h2:b<=j/\j<b+n
   ·rw[aH h2,aH (by omega)]
   ·rw[aF h2,aF (by omega)]
theorem A65 {b:Nat}(u:b+n<=1000)(a:Co)(q:List (List Nat))(Q:b+n<=a.es.length):∀(f i:Nat) (m:Aa) (Y:Co),n-i<f->i<=n->Ey h m B X F Y->Cc Y (A04 q b i) mt->Sq Y->Y = { a with es:=Av7 a.es b i } ->
 Ok (Mj (Ag TT disp K d false) (Ag TT disp K d true) K f (.ptr B.c 0) (I (b:Int)) (I (n:Int)) (I ((b+i:Nat):Int)) m) fun v h'=>v=I 0/\∃Z,Ey h h' B X F Z/\Cc Z (A04 q b n) mt/\Sq Z/\Z = { a with es:=Av7 a.es b n }:=by
 intro f;induction f with
 | zero=>intro i m Y E;omega
 | succ f G=>
  intro i m Y E T c1 o t e;rw[Mj];simp only[I,Ac];rw[Cq (n:=(b:Int)+n) (by omega) (by omega)];have el:Y.es.length=a.es.length:=by rw[e];exact Au2 _ _ _
  by_cases H:i<n
  ·have hd:decide (((b+i:Nat):Int)<(b:Int)+n)=true:=by simp;omega
   simp only[hd,Ab,Afk];rw[c1.C.ldB,Ax (l:=(Me.nil 0).cells) rfl];have ms:=Aqn (K:=K) c1.C.sm c1.C.map c1.C.hb (x:=Me.nil 0) (fun y=>by cases y) ((b+i:Nat):Int);have J:meR Y.S.g (Me.nil 0)=true:=by unfold meR;rw[aH (.inl rfl)];exact aP rfl
   have M:A3x Y.S.g Y.es ((b+i:Nat):Int) (Me.nil 0)=(Y.es.set (b+i) (Me.nil 0),0):=by
    unfold A3x;rw[aH ⟨by omega,by omega⟩,aH J,bD]
   rw[M]at ms;refine Ok.Ap ms ?_;rintro _ h2 ⟨rfl,m2,O,p⟩;have c2:=c1.trans (c1.C.Bok m2 O p);simp only[Aga,Ac];rw[Cq,show(((b+i:Nat):Int))+1=((b+(i+1):Nat):Int) by omega];have cs:=o.set (j:=b+i) (by omega) (x:=Me.nil 0) (bs:=List.replicate 32 0) (.inl ⟨rfl,rfl⟩) (by have:=o.nm.2.2;show(0:Int)<_;omega);refine G (i+1) h2 _ (by omega) (by omega) c2 cs (t.set (Y:={ Y with es:=Y.es.set (b+i) (Me.nil 0) }) o.sq rfl fun y=>by cases y) ?_;rw[e];rfl
  ·have hd:decide (((b+i:Nat):Int)<(b:Int)+n)=false:=by simp;omega
   have P:i=n:=by omega
   subst P;simp only[hd,Ab,Ahb];exact .ret ⟨rfl,Y,c1,o,t,e⟩
end
end
section
theorem Biv {n b m:Int}(h0:1<=n)(a:n<=281474976710655)(b0:0<=b)(b1:b<=255)(e:1<=m)(m1:m<=256-b):EOk ⟨2,n,1,b,m,0,Dd⟩ 1 n:=by
 unfold EOk Ee;rw[aH];refine⟨?_,?_,cY _,by show n-1<n;omega⟩
 ·unfold erB Aki
  simp only[aV,Ec];refine⟨⟨by omega,a⟩,⟨b0,b1⟩,⟨by decide,by decide⟩,?_⟩;simp[Ec];omega
 ·unfold frB
  simp only[aV,Ec];exact⟨⟨by decide,by decide⟩,⟨by decide,by decide⟩,⟨by decide,by decide⟩,⟨by decide,by decide⟩,by omega,a⟩
def Alh(g:Gm)(b m:Int):Bool:=(decide (0<=b)&&decide (b<g.B))&&(decide (1<=m)&&decide (m<=g.B-b))
section
variable (A:Bv disp)(hK:10000<K)
include A hK
theorem A6g(C:Dw h B X F)(J:Jc X L mt)(hg:X.gen+1100<=281474976710655)(hx:X.nx+70000<=281474976710655)(hd:28<=d)(block many:Int):Ok (Ag TT disp K d false 30 [.ptr B.c 0,I block,I many] h) fun v h'=>∃(e:Int) (Y:Co) (L':List (List Nat)) (mt':Int->Int),v=I e/\Ey h h' B X F Y/\Jc Y L' mt'/\Opd X Y /\
 ((Alh X.S.g block many=false/\e=13/\Y=X/\L'=L)\/(Alh X.S.g block many=true/\e=0/\L'=A04 L block.toNat many.toNat/\∀i:Nat,block<=i->(i:Int)<block+many->Y.es[i]? = some (Me.nil 0))):=by
 obtain⟨e,rfl⟩:∃k,d=k+1:=⟨d-1,by omega⟩;have b1:=C.sm.b1;rw[Aqw A (by omega)];simp only[Amu,Ab];refine Ok.Ap (Bch (K:=K) C block) ?_;rintro _ h2 ⟨rfl,V⟩;have c2:=C.toE V;have aa:Fa (.tuple []) false=false/\Fa (.tuple []) true=false:=⟨rfl,rfl⟩;have no:∀h',Ey h h' B X F X->Alh X.S.g block many=false->Ok (some (.int .i64 13,h')) fun v h'=>∃(e:Int) (Y:Co) (L':List (List Nat)) (mt':Int->Int),v=I e/\Ey h h' B X F Y/\Jc Y L' mt'/\Opd X Y /\
  ((Alh X.S.g block many=false/\e=13/\Y=X/\L'=L)\/(Alh X.S.g block many=true/\e=0/\L'=A04 L block.toNat many.toNat/\∀i:Nat,block<=i->(i:Int)<block+many->Y.es[i]? = some (Me.nil 0))):=fun h' c t=>.ret ⟨13,X,L,mt,rfl,c,J,Opd.refl X,.inl ⟨t,rfl,rfl,rfl⟩⟩
 cases o:(decide (0<=block)&&decide (block<X.S.g.B))with
 | false=>
  simp only[Ab,Ac,Rb,Ni];exact no _ c2 (by unfold Alh;rw[o];rfl)
 | true=>
 have y:=o;simp only[aV,aU]at o;simp only[Ab,Ac,I];by_cases E:many<1
 ·simp only[E,aB,Ab,Ac,Rb,Ni]
  exact no _ c2 (by unfold Alh;rw[aO (show ¬1<=many by omega),av,cr])
 simp only[E,aA,Ab,Ac,Rb];rw[c2.C.ldM];refine Ok.Ap (O0 (K:=K) c2.C.M c2.hb) ?_;rintro _ h3 ⟨rfl,x3⟩;have c3:=c2.trans (c2.C.toE x3);unfold gV;rw[Art (v:=I X.S.g.B) rfl];simp only[I,Ac];rw[Cq];by_cases h4:X.S.g.B-block<many
 ·simp only[h4,aB,Ab,Ac,Ni]
  exact no _ c3 (by unfold Alh;rw[aO (show ¬many<=X.S.g.B-block by omega),cr,cr])
 clear no;have ht:Alh X.S.g block many=true:=by unfold Alh;rw[y,aP (show 1<=many by omega),aP (show many<=X.S.g.B-block by omega)];rfl
 simp only[h4,aA,Ab,Ac,Ni,Agd];refine Ok.Ap (Aup A hK c3.C J.c J.sq J.fr (by omega) (by omega) (d:=e) (by omega)) ?_;rintro _ h5 ⟨rfl,Y,mt',a,G,sy,r⟩;have a:=c3.trans a;have mu:=r.Boa G;have s0:=J.c.c.sm.s0;have tn:=r.t.nx;have P:=G.nm;simp only[I,Ac,aC,aA,Ab,Afp];rw[a.C.ldN];have H:=Bm1 Y.nx block many;rw[<-En.Hq]at H;simp only[I]at H⊢;rw[Ax H];refine Ok.Ap (Bm9 A hK (d:=e) (by omega) (⟨Zz,Bml⟩:(⟨2,Y.nx,1,block,many,0,Dd⟩:En).Wf) a.C G (by rw[P.2.1];exact Biv P.2.2 (by omega) (by omega) (by omega) (by omega) (by omega)) (by omega) (by omega)) ?_;rintro _ h6 ⟨x,Z,f,rfl,p,cz,m⟩;have p:=a.trans p;simp only[Ab];refine Ok.mk rfl rfl fun h7 x7 _ _=>?_
 have c7:=p.trans (p.C.toE x7);simp only[I,Ac,aC,aA,Ab,Ags];obtain⟨b,hb⟩:=a8 o.1;obtain⟨n,hn⟩:=a8 (show 0<=many by omega);subst hb hn;have lb:=J.c.lb;have b0:=C.sm.b0;have zl:Z.es.length=X.es.length:=by rw[m.es,r.t.len]
 have sz:Sq Z:=sy.es m.es;refine(A65 A hK (mt:=f) (b:=b) (n:=n) (by omega) (d:=e) Z L (by omega) K 0 h7 Z (by omega) (by omega) c7 cz sz rfl).mono ?_;rintro _ h8 ⟨rfl,W,c8,cw,sw,O⟩;have q:=m.nm;have pf:=m.free;have Q:=m.g;have T:=r.t.g;have aq:=r.t.gen;have U:W.S=Z.S:=by rw[O]
 have u:W.gen=Z.gen/\W.nx=Z.nx/\W.ep=Z.ep/\W.st=Z.st:=by rw[O];exact⟨rfl,rfl,rfl,rfl⟩
 refine⟨0,W,_,f,rfl,c8,⟨cw,sw,by rw[U,Q,T];omega⟩,⟨by rw[U,Q,T],⟨by rw[u.2.2.1,q.2.1,r.t.nm.1],by rw[u.2.2.2,q.2.2.2,r.t.nm.2]⟩,by rw[u.1,q.1];omega,by rw[u.2.1,q.2.2.1];omega⟩,.inr ⟨ht,rfl,rfl,fun i h0 E=>?_⟩⟩;have es:W.es=Av7 Z.es b n:=by rw[O]
 rw[es,A49 _ _ _ _ (by omega),aH (by omega)]
end
end
structure Rd'(X Y:Co):Prop where
 es:Y.es=X.es
 nm:Y.gen=X.gen/\Y.ep=X.ep/\Y.nx=X.nx/\Y.st=X.st
 g:Y.S.g=X.S.g
 cl:∀z,Y.closed z=X.closed z
 o:Y.S.a=X.S.a/\Y.S.b=X.S.b
theorem Rd'.refl(X:Co):Rd' X X:=⟨rfl,⟨rfl,rfl,rfl,rfl⟩,rfl,fun _=>rfl,⟨rfl,rfl⟩⟩
theorem Rd'.opd(r:Rd' X Y):Opd X Y:=⟨r.g,⟨r.nm.2.1,r.nm.2.2.2⟩,by have:=r.nm.1;omega,by have:=r.nm.2.2.1;omega⟩
theorem Jc.Bpt(J:Jc X L mt):Jc { X with S:=X.S.E0.E0 } L mt/\Rd' X { X with S:=X.S.E0.E0 }:=by
 have q:=(Dq.E0 J.c.c);have c1:=J.c.q0 q;have a:=(Dq.E0 c1.c);have c2:=c1.q0 a;refine⟨⟨c2,J.sq.es rfl,J.fr⟩,rfl,⟨rfl,rfl,rfl,rfl⟩,rfl,fun z=>?_,⟨rfl,rfl⟩⟩;exact(Ol a z).trans (Ol q z)
theorem Cc.entry(c:Cc X L mt)(b:X.es[j]? = some x):∃bs,L[j]? = some bs/\bs.length=32/\((x=Me.nil 0/\bs=List.replicate 32 0)\/Jv X mt x bs):=by
 have a:j<L.length:=by rw[c.len];exact(aY.1 b).1
 have h:=c.Awn j x _ b (aD a);refine⟨_,aD a,?_,h⟩;rcases h with w|w
 ·rw[w.2];simp
 ·obtain⟨e,f,g,_⟩:=w.rc.ex
  rw[<-g];exact f.1
section
variable (A:Bv disp)(hK:10000<K)
include A hK
theorem A5u(C:Dw h B X F)(J:Jc X L mt)(hd:29<=d)(j:Int):Ok (Ag TT disp K d false 47 [.ptr B.c 0,I j] h) fun v h'=>∃(bl:List Nat) (e:Int) (Y:Co),v=.tuple [.agg (Bj bl),I e]/\bl.length=32/\Ey h h' B X F Y/\Jc Y L mt/\Rd' X Y/\((0<=j/\j<X.S.g.B/\e=0/\L[j.toNat]? = some bl)\/(¬(0<=j/\j<X.S.g.B)/\e=13/\Y=X)):=by
 obtain⟨dd,rfl⟩:∃k,d=k+1:=⟨d-1,by omega⟩;rw[Aqy A (by omega)];simp only[Ann,Ab];rw[I6];obtain⟨Q,T,U,g4,n1⟩:=nW h (.cells (Bj Dd) 49);rw[T];have t:=C.ext U;rw[t.ldB];refine Ok.Ap (Uq (K:=K) t.sm t.map t.hb j) ?_;rintro _ h2 ⟨rfl,u⟩;have rg:=A9a C.sm (Bib C.map.ok j);have lb:=J.c.lb;have b0:=C.sm.b0;have fin:∀(f:Aa),Ext h f->h.next<f.next->∀(bl:List Nat) (e:Int) (h4:Aa) (Y:Co),bl.length=32->Ey f h4 B X (Bf F h f) Y->h4.get h.next=some (.cells (Bj Dd) 49)->Jc Y L mt/\Rd' X Y/\((0<=j/\j<X.S.g.B/\e=0/\L[j.toNat]? = some bl)\/(¬(0<=j/\j<X.S.g.B)/\e=13/\Y=X))->Ok (stE 32 (.ptr h.next 0) (.agg (Bj bl)) h4 fun h=>It TT [.c (.ptr (Q.next-1) 0) 49,.v (.int .i64 e)] h) fun v h'=>∃(bl:List Nat) (e:Int) (Y:Co),v=.tuple [.agg (Bj bl),I e]/\bl.length=32/\Ey h h' B X F Y/\Jc Y L mt/\Rd' X Y/\((0<=j/\j<X.S.g.B/\e=0/\L[j.toNat]? = some bl)\/(¬(0<=j/\j<X.S.g.B)/\e=13/\Y=X)):=by
  intro f a aq bl e h4 Y hl c4 G q;have ul:(Bj bl).length=32:=by rw[Bg,hl]
  have l4:=c4.hb _ _ G;rw[show Q.next-1=h.next by omega];refine Ok.st (Bj bl) G rfl (by show Fz (Bj bl)=32;rw[Bc,ul]) (Bk (by show(Bj Dd).length=(Bj bl).length;rw[ul,Bg,Zz])) ?_;rw[Ff (Ae _ _ _) Apf.1 Apf.2 ul];exact .ret ⟨bl,e,Y,rfl,hl,Ey.Bkj a c4 ((Ar.refl (S:=fun i=>i=h.next) h4).Aq (.inl rfl) l4 _) (fun i hi=>by subst hi;omega) (c4.hb.put l4 _),q⟩
 rw[show Q.next-1=h.next by omega]at fin;have bz:∀k:EV->R,Bq (Nb 1) (Bj Dd) [] k=k (.agg (Bj Dd)):=fun k=>Ax rfl
 have aw:=u.hb t.hb;have ax:Fa (.tuple []) false=false/\Fa (.tuple []) true=false:=⟨rfl,rfl⟩;simp only[Ab];by_cases hj:0<=j/\j<X.es.length
 case neg=>
  rw[Baw hj];simp only;refine Ok.mk rfl rfl fun f y e3 _=>?_
  have a:Ext h f:=(U.trans u).trans y;have o:=Ext.at (u.trans y) t.hb g4;have V:=(u.trans y).next
  have m:=C.ext a;simp only[I,Ac];have H:¬(13:Int)=0:=by decide
  simp only[H,aN,aB,Ab,Ac,Rg];rw[I6,bz];exact fin f a (by omega) Dd 13 f X rfl (Ey.refl m) o ⟨J,Rd'.refl X,.inr ⟨by omega,rfl,rfl⟩⟩
 obtain⟨b,rfl⟩:=a8 hj.1;have E:=aD (show b<X.es.length by omega);rw[Axe E]at rg⊢;simp only at rg⊢;generalize X.es[b]=x at E rg⊢;refine Ok.mk rfl rfl fun f y e3 _=>?_
 have a:Ext h f:=(U.trans u).trans y;have o:=Ext.at (u.trans y) t.hb g4;have V:=(u.trans y).next
 have m:=C.ext a;have f4:Bf F h f h.next:=.inr ⟨aE _,by omega⟩
 obtain⟨bs,hL,O,W⟩:=J.c.entry E;have P:(b:Int)<X.S.g.B:=by omega
 simp only[I,Ac,aC,aA,Ab];rw[Al e3 rfl (v:=I x.state) rfl];simp only[I,Ac];rcases W with⟨rfl,rfl⟩|lv
 ·simp only[show(Me.nil 0).state=0 from rfl,aB,Ab,Ac,Rg]
  rw[I6,bz];exact fin f a (by omega) Dd 0 f X rfl (Ey.refl m) o ⟨J,Rd'.refl X,.inl ⟨by omega,P,rfl,by rw[bD,hL];rfl⟩⟩
 have s1:=lv.st;simp only[s1,Ab,Ac];rw[show decide ((1:Int)=0)=false from rfl];simp only[Ab,Ac,Rg];rw[Al e3 rfl (v:=I x.state) rfl];simp only[I,Ac,s1];rw[show decide ((1:Int)=2)=false from rfl];simp only[Ab,Ac,Af1];have lc:=m.hb _ _ m.core;have l6:=m.hb _ _ e3;rw[Jb lc,m.ldM];simp only[Ab,Au];rw[Jb l6,Cr e3 rfl (Ak (n:=6) rfl)];simp only[Ab,Au];have ck:=Bfl A hK (d:=dd) (by omega) m.lift.M m.lift.hb rg.1 rg.2;have mk:=Bhq X.S x;rw[J.c.check lv]at ck mk;obtain⟨jt,rt⟩:=J.Bpt;refine Ok.bC (S:=fun j=>¬B.fr (Bf F h f) j) ck (fun _ _ p=>p.2.2.2.1) ?_;rintro _ az h4 s' ⟨rfl,bw,M',_,aa⟩ sm ch ab;have c4:=m.H9 (M'.same sm) ch (sm.hb aa) mk;simp only at c4 bw;generalize ({ X with S:=X.S.E0.E0 }:Co)=Y at c4 jt rt;have ul:(Bj bs).length=32:=by rw[Bg,O]
 simp only[Ab];rw[J6 (by rcases ab with rfl|⟨w,rfl,_⟩<;>kernel_rfl)];refine Ok.st (Bj bs) (Ad _ _) rfl (by show Fz (Bj bs)=32;rw[Bc,ul]) (Bk (by rw[bV];exact ul.symm)) ?_;obtain⟨h5,T,x5,g8,n5⟩:=nP h4 (.cells (List.replicate 32 (EV.int .u8 0)) 49) (.cells (Bj bs) 49);rw[T];have c5:=c4.trans (c4.C.toE x5);have ad:=c5.k.at m.hb o f4;simp only[I,Ac,aC,aA,Ab,Ago];have ae:¬(2:Int)<2:=by decide
 simp only[ae,aA,Ab,Ac,Ag0,Ahi,dr];rw[Cr g8 rfl (Ak ul)];exact fin f a (by omega) bs 0 h5 Y O c5 ad ⟨jt,rt,.inl ⟨by omega,P,rfl,by rw[bD];exact hL⟩⟩
end
end Go.Ev
