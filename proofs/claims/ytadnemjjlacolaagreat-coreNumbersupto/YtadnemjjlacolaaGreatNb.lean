import Derived.Test.YtadnemjjlacolaaGreatNa
import Derived.Test.YtadnemjjlacolaaGreatCd
import Derived.Test.YtadnemjjlacolaaGreatCc
set_option linter.all false
namespace Go.Ev
open Go.Proofs
set_option maxRecDepth 100000
variable {K b d j n:Nat}{X Y:Co}{L:List (List Nat)}{mt:Int->Int}{ps ps':Nat->List Int}{e:En}{h:Aa}{x:Me}{disp:Nat->Option FT}{B:Cb}{F:Nat->Prop}
section
theorem Axv(n:Nat):∀l:List Int,l.Nodup->(∀z∈l,0<=z/\z<n)->l.length<=cn (fun z=>decide ((z:Int)∈l)) n
 | [],_,_=>cQ _
 | a::l,nd,g=>by
  obtain⟨i,k⟩:=cB.1 nd;have p:=Axv n l k fun z o=>g z (aR _ o)
  have q:=g a (aW ..);have key:∀m:Nat,cn (fun z=>decide ((z:Int)∈l)) m+(if a<m then 1 else 0)<=cn (fun z=>decide ((z:Int)∈a::l)) m:=fun m=>by
   induction m with
   | zero=>unfold cn;rw[aF (by omega)];exact aE _
   | succ m f=>
    unfold cn;by_cases h:(m:Int)=a
    ·rw[aF (show ¬decide ((m:Int)∈l)=true by rw[h];simpa using i),aH (show decide ((m:Int)∈a::l)=true by rw[h];simp),aH (by omega)]
     rw[aF (by omega)]at f;omega
    ·have e:(decide ((m:Int)∈a::l)=true)↔(decide ((m:Int)∈l)=true):=by simp[h]
     by_cases h2:decide ((m:Int)∈l)=true
     ·rw[aH h2,aH (e.2 h2)]
      split at f<;>split<;>omega
     ·rw[aF h2,aF fun y=>h2 (e.1 y)]
      split at f<;>split<;>omega
  have:=key n;rw[aH (by omega)]at this;rw[bF];omega
theorem A1r {g:Gm}(s:Sm g){l:List Int}(nd:l.Nodup)(m:∀z∈l,Bo g z=d):l.length<=g.Z.toNat:=by
 have:=s.z0;have bd:=s.Ah7
 let f:List Int:=(List.range g.Z.toNat).map fun(k:Nat)=>(d:Int)*g.Z+k
 have o:=Axv (g.D*g.Z).toNat l nd fun z i=>by
  rcases I9 s z with y|⟨_,_,_,a,b⟩
  ·have:=m z i;omega
  ·exact⟨a,by omega⟩
 have h2:cn (fun z=>decide ((z:Int)∈l)) (g.D*g.Z).toNat<=cn (fun z=>decide ((z:Int)∈f)) (g.D*g.Z).toNat:=A8b _ fun z _ i=>by
  simp only[aU]at i⊢;have hd:=m _ i;rcases I9 s z with y|⟨_,_,e,a,b⟩
  ·omega
  ·refine cA.2 ⟨((z:Int)%g.Z).toNat,dK.2 ?_,?_⟩
   ·have:=Int.emod_lt_of_pos (z:Int) (show 0<g.Z by omega)
    have:=Int.emod_nonneg (z:Int) (show g.Z≠0 by omega);omega
   ·have:=Int.emod_nonneg (z:Int) (show g.Z≠0 by omega)
    have:=Int.mul_ediv_add_emod (z:Int) g.Z;rw[<-hd,e,Int.mul_comm];omega
 have p:=Adr (g.D*g.Z).toNat f;have h4:f.length=g.Z.toNat:=by simp[f]
 omega
theorem A09 {z:Int}:∀{es:List Me},Jt es z=0->∀x∈es,x.state=1->¬x.Ah=z/\¬x.Ay=z
 | [],_,x,f,_=>by cases f
 | y::es,h,x,f,g=>by
  rw[O6]at h;have a:=A3n z y;have b:=(Ajk z es).1;rcases bS.1 f with rfl|f
  ·have:Ut z x=0:=by omega
   unfold Ut at this;split at this
   ·omega
   ·rename_i i
    exact⟨fun e=>i ⟨g,.inl e⟩,fun e=>i ⟨g,.inr e⟩⟩
  ·exact A09 (es:=es) (by omega) x f g
theorem Wi {z:Int}:X.dead z=true↔X.closed z=true/\X5 X.S.g X.es z=0:=by
 unfold Co.dead;simp only[aV,aU]
theorem Cc.Bcw(C:Cc X L mt){z:Int}(h:X.dead z=true):∀x∈X.es,x.state=1->¬x.Ah=z/\¬x.Ay=z:=by
 obtain⟨f,h2⟩:=Wi.1 h;have hd:=(Ew.1 f).1;refine A09 ?_;unfold X5 at h2;rcases I9 C.c.sm z with y|⟨_,_,_,a,b⟩
 ·omega
 ·rw[aH ⟨a,b⟩]at h2;exact h2
theorem Cc.tz(C:Cc X L mt){z:Int}(hd:0<=Bo X.S.g z)(i:¬z=X.S.a)(h2:¬z=X.S.b):Tz X.S z:=by
 obtain⟨a,f,_⟩:=Sn C.c hd;refine⟨C.c,hd,?_⟩;obtain⟨s1,s2⟩:=C.s2 _ f;rcases cU 0 (X.S.dr.dv.zs z.toNat).st with y|y
 ·right
  rcases cU 1 (X.S.dr.dv.zs z.toNat).st with w|w
  ·omega
  ·rcases C.c.few _ f (by omega)with v|v<;>omega
 ·exact .inl ⟨by omega,s2 (by omega)⟩
theorem Cc.Bic(C:Cc X L mt){z:Int}(h:X.closed z=true):Tz X.S z:=by
 obtain⟨a,b,c,_⟩:=Ew.1 h;exact C.tz a b c
theorem Cc.Bpi(C:Cc X L mt){z:Int}(h:X.closed z=true):Idle X.S fun i=>i=z.toNat:=fun w hw e=>by
 obtain⟨f,g,k,_,_,a⟩:=Ew.1 h;have:w=z:=T9 C.c.sm hw f e;subst this;refine⟨g,k,fun d hd hm=>?_⟩;rw[Is.2 ⟨d,hd,hm⟩]at a;cases a
theorem Cc.Bqd(C:Cc X L mt){z:Int}(E:X.closed z=true)(G:∀x∈X.es,x.state=1->¬x.Ah=z/\¬x.Ay=z)(he:(X.S.dr.dv.zs z.toNat).l = []/\(X.S.dr.dv.zs z.toNat).st=0):
 (U5 X.S.g X.S.g.D.toNat X.S.ps z).1=0/\X.S.Aeo z = { X.S with ps:=upd X.S.ps (Bo X.S.g z).toNat (X.S.ps (Bo X.S.g z).toNat++[z]) }/\Cc { X with S:=X.S.Aeo z } L mt/\∀w,({ X with S:=X.S.Aeo z }:Co).closed w=(X.closed w&&!decide (w=z)):=by
 obtain⟨a1,H,J,a4,p,k⟩:=Ew.1 E;have s:=C.c.sm;obtain⟨b1,b2⟩:Bo X.S.g z<X.S.g.D/\0<=X.S.g.D:=by
  rcases I9 s z with y|⟨_,y,_⟩
  ·omega
  ·have:=s.d0;exact⟨y,by omega⟩
 have hd:(Bo X.S.g z).toNat<X.S.g.D.toNat:=by omega
 have nd:=C.c.nd _ hd;have nm:∀d,d<X.S.g.D.toNat->z ∉ X.S.ps d:=fun d hd hm=>by rw[Is.2 ⟨d,hd,hm⟩]at k;cases k
 have i:(X.S.ps (Bo X.S.g z).toNat++[z]).Nodup:=by
  rw[List.nodup_append];refine⟨nd,by simp,fun a M b hb y=>?_⟩;rw[aM.1 hb]at y;subst y;exact nm _ hd M
 have len:(X.S.ps (Bo X.S.g z).toNat).length<X.S.g.Z.toNat:=by
  have:=A1r s (d:=(Bo X.S.g z).toNat) i fun w hw=>by
   rcases bJ.1 hw with y|y
   ·exact(C.c.wf.ps _ hd w y).1
   ·rw[aM.1 y];omega
  rw[aG]at this;exact this
 have t:U5 X.S.g X.S.g.D.toNat X.S.ps z=(0,upd X.S.ps (Bo X.S.g z).toNat (X.S.ps (Bo X.S.g z).toNat++[z])):=by
  unfold U5;rw[aF (by omega),k,aF (by decide),aH len]
 have hS:X.S.Aeo z = { X.S with ps:=upd X.S.ps (Bo X.S.g z).toNat (X.S.ps (Bo X.S.g z).toNat++[z]) }:=by
  unfold Mi.Aeo;rw[t]
 have mem:∀d w,w∈upd X.S.ps (Bo X.S.g z).toNat (X.S.ps (Bo X.S.g z).toNat++[z]) d->w∈X.S.ps d\/(w=z/\d=(Bo X.S.g z).toNat):=fun d w hw=>by
  unfold upd at hw;split at hw
  ·rename_i e
   subst e;rcases bJ.1 hw with y|y
   ·exact .inl y
   ·exact .inr ⟨aM.1 y,rfl⟩
  ·exact .inl hw
 have f:∀w,({ X with S:=X.S.Aeo z }:Co).closed w=(X.closed w&&!decide (w=z)):=fun w=>by
  have hb:hasB (upd X.S.ps (Bo X.S.g z).toNat (X.S.ps (Bo X.S.g z).toNat++[z])) X.S.g.D.toNat w=(hasB X.S.ps X.S.g.D.toNat w||decide (w=z)):=by
   rw[eD,dR,aU,Is,Is];constructor
   ·rintro⟨d,hd,hm⟩
    rcases mem d w hm with y|y
    ·exact .inl ⟨d,hd,y⟩
    ·exact .inr y.1
   ·rintro(⟨d,m,hm⟩|rfl)
    ·refine⟨d,m,?_⟩
     unfold upd;split
     ·rename_i e;subst e;exact bJ.2 (.inl hm)
     ·exact hm
    ·refine⟨_,hd,?_⟩
     unfold upd;rw[aH rfl];simp
  rw[hS];unfold Co.closed;show(_&&(_&&(_&&(_&&(_&&!hasB (upd _ _ _) _ w)))))=_;rw[hb];cases decide (w=z)<;>simp[Mi.Ex]
 refine⟨by rw[t],hS,?_,f⟩;have O:Calm (X.S.Aeo z):=by
  rw[hS];refine⟨{ toWp:=⟨C.c.wf.sm,fun d hd w hw=>?_⟩,op:=C.c.wf.op },C.c.rt,C.c.ev,C.c.up,C.c.n,C.c.size,C.c.op,C.c.bad,fun d hd=>?_,fun d hd w hw=>?_,?_,C.c.few⟩
  ·rcases mem d w hw with y|⟨rfl,y⟩
   ·exact C.c.wf.ps d hd w y
   ·exact⟨by show Bo X.S.g w=d;omega,C.c.bad _⟩
  ·show(upd X.S.ps _ _ d).Nodup
   unfold upd;split
   ·exact i
   ·exact C.c.nd d hd
  ·rcases mem d w hw with y|⟨rfl,y⟩
   ·exact C.c.fr d hd w y
   ·exact he
  ·rcases C.c.opn with y|⟨P,Q,T,U,V,u,W⟩
   ·exact .inl y
   ·refine .inr ⟨P,Q,T,U,V,fun d hd=>⟨fun hm=>?_,fun hm=>?_⟩,W⟩
    ·rcases mem d _ hm with w|w
     ·exact(u d hd).1 w
     ·exact H w.1.symm
    ·rcases mem d _ hm with w|w
     ·exact(u d hd).2 w
     ·exact J w.1.symm
 refine⟨O,C.un,by rw[hS];exact C.ar,fun w hw=>?_,by rw[hS];exact C.s2,by rw[hS];exact C.opm,C.len,by rw[hS];exact C.lb,fun b x bs v o=>?_,C.sq,C.nm⟩
 ·have hw:arB X w:=hw
  obtain⟨r1,r2,r3,r4⟩:=C.arz w hw;rw[hS];refine⟨r1,r2,fun d hd hm=>?_,r4⟩;rcases mem d w hm with y|y
  ·exact r3 d hd y
  ·rw[y.1]at hw
   rw[(C.Xb z).2 hw]at p;cases p
 ·rcases C.Awn b x bs v o with y|y
  ·exact .inl y
  ·obtain⟨n1,n2⟩:=G x (bU v) y.st
   refine .inr ⟨y.st,by rw[hS];exact y.ok,?_,y.m1,y.m2,?_⟩
   ·obtain⟨e,q⟩:=y.rc.ex
    rw[hS];exact⟨e,q⟩
   ·rw[f,f]
    rcases y.wh with w|w
    ·left;rw[hS];exact w
    ·right
     rw[w.1,w.2,aO n1,aO n2];exact⟨rfl,rfl⟩
end
section
structure Kc(X Y:Co):Prop where
 es:Y.es=X.es
 nm:Y.gen=X.gen/\Y.ep=X.ep/\Y.nx=X.nx/\Y.st=X.st
 g:Y.S.g=X.S.g
 o:Y.S.a=X.S.a/\Y.S.b=X.S.b/\Y.S.u=X.S.u
theorem Kc.refl(X:Co):Kc X X:=⟨rfl,⟨rfl,rfl,rfl,rfl⟩,rfl,rfl,rfl,rfl⟩
theorem Kc.trans {Z:Co}(a:Kc X Y)(b:Kc Y Z):Kc X Z:=⟨b.es.trans a.es,⟨b.nm.1.trans a.nm.1,b.nm.2.1.trans a.nm.2.1,b.nm.2.2.1.trans a.nm.2.2.1,b.nm.2.2.2.trans a.nm.2.2.2⟩,b.g.trans a.g,b.o.1.trans a.o.1,b.o.2.1.trans a.o.2.1,b.o.2.2.trans a.o.2.2⟩
structure Rcy(X Y:Co)(i:Int):Prop where
 k:Kc X Y
 cl:∀z,Y.closed z=(X.closed z&&!(X.dead z&&decide (z<i)))
 fr:∀z,X.dead z=true->z<i->z∈Y.S.ps (Bo X.S.g z).toNat
 pre:∀d,∃ex,Y.S.ps d=X.S.ps d++ex
theorem Kc.dead(k:Kc X Y)(z:Int):Y.dead z=(Y.closed z&&decide (X5 X.S.g X.es z=0)):=by unfold Co.dead;rw[k.es,k.g]
section
variable (A:Bv disp)(hK:10000<K)
include A hK
theorem Bem(C:Dw h B X F)(c:Cc X L mt){z:Int}(J:X.dead z=true)(hd:19<=d):Ok (Ag TT disp K d false 101 [.ptr B.c 0,I z] h) fun v h'=>v=I 0/\∃Y,Ey h h' B X F Y/\Cc Y L mt/\Kc X Y/\(∀w,Y.closed w=(X.closed w&&!decide (w=z)))/\Y.S.ps=upd X.S.ps (Bo X.S.g z).toNat (X.S.ps (Bo X.S.g z).toNat++[z]):=by
 obtain⟨e,rfl⟩:∃k,d=k+1:=⟨d-1,by omega⟩;have i:=(Wi.1 J).1;have t:=c.Bic i;have Q:=Zt c.c.sm t.d;have O:=c.Bcw J;rw[Alr A (by omega)];simp only[Afy,Ab];rw[C.ldM];obtain⟨D,V,dr⟩:=Agx A hK C.M C.hb;rw[dr.Dr];refine Ok.Ap (dr.reset (d:=e) (by omega) z (by rw[(Ang X.S.dr z).size];exact C.wf.sz)) ?_;rintro v h2 ⟨rfl,M2,T,m⟩;have c2:=C.H9 M2 T m (Ba2 (Bhu _ z));obtain⟨U,f⟩:=A70 t;rw[U];have q:=Bne t f (.inr rfl);have lv:∀x∈X.es,x.state=1->¬x.Ah.toNat=z.toNat/\¬x.Ay.toNat=z.toNat:=fun x P o=>by
  obtain⟨W,Z⟩:=O x P o;obtain⟨b,hb⟩:=cV.1 P;have u:b<L.length:=by rw[c.len];exact(aY.1 hb).1
  rcases c.Awn b x _ hb (aD u)with w|w
  ·rw[w.1]at o;cases o
  ·obtain⟨z1,z2⟩:=w.Zq
   exact⟨fun y=>W (T9 c.c.sm z1 t.d y),fun y=>Z (T9 c.c.sm z2 t.d y)⟩
 have E:=c.dq q (c.Bpi i) lv;have e0:(f.here.1:_)=f.here.1:=rfl;have he:((X.S.dr.reset z).1.dv.zs z.toNat).l = []/\((X.S.dr.reset z).1.dv.zs z.toNat).st=0:=by
  obtain⟨a,b⟩:=f.here;have:=t.pos;rw[aF (by omega),aH rfl]at b;exact⟨cj a,b⟩
 simp only[I,Ac,aB,Ab];rw[c2.C.ldM];have G:({ X with S:={ X.S with dr:=(X.S.dr.reset z).1 } }:Co).closed z=true:=by rw[Ol q];exact i
 obtain⟨g1,g2,g3,g4⟩:=E.Bqd G O he;obtain⟨p,e1,e2⟩:=A7a c2.C.M c2.C.hb A hK;rw[e1,As];refine Ok.Ap (e2 (d:=e) (by omega) Q fun _=>c.c.bad _) ?_;rintro v h3 ⟨rfl,M3,k3,H⟩;rw[show(U5 ({ X with S:={ X.S with dr:=(X.S.dr.reset z).1 } }:Co).S.g ({ X with S:={ X.S with dr:=(X.S.dr.reset z).1 } }:Co).S.g.D.toNat ({ X with S:={ X.S with dr:=(X.S.dr.reset z).1 } }:Co).S.ps z).1=0 from g1];have c3:=c2.trans (c2.C.H9 M3 k3 H (Bkx _ _));refine .ret ⟨rfl,_,c3,g3,⟨rfl,⟨rfl,rfl,rfl,rfl⟩,rfl,rfl,rfl,rfl⟩,fun w=>?_,?_⟩
 ·have:=g4 w
  rw[Ol q]at this;exact this
 ·show(({ X.S with dr:=(X.S.dr.reset z).1 }:Mi).Aeo z).ps=_
  rw[g2]
theorem A2i(T:X.S.g.D*X.S.g.Z=n)(hd:19<=d)(E:Sm X.S.g):∀(f i:Nat) (t:Aa) (Y:Co),n-i<f->i<=n->Ey h t B X F Y->Cc Y L mt->Rcy X Y i ->
 Ok (Fm (Ag TT disp K d false) (Ag TT disp K d true) K f (.ptr B.c 0) (I n) (I i) t) fun v h'=>v=I 0/\∃Z,Ey h h' B X F Z/\Cc Z L mt/\Rcy X Z n:=by
 intro f;induction f with
 | zero=>intro i t Y G;omega
 | succ f H=>
  intro i t Y G U c1 y r;have bd:=E.Ah7;rw[Fm];simp only[I,Ac];by_cases J:i<n
  ·have:decide ((i:Int)<(n:Int))=true:=by simp;omega
   simp only[this,Ab,Ve];refine Ok.Ap (Bby A hK c1.C (d:=d) (by omega) (z:=i) ⟨by omega,by omega⟩) ?_;rintro v h2 ⟨rfl,M⟩;have c2:=c1.trans (c1.C.rd M);have nx:∀m Z,Ey h m B X F Z->Cc Z L mt->Rcy X Z (i+1:Nat)->Ok (Jw (Ag TT disp K d false) (Ag TT disp K d true) K (Fm (Ag TT disp K d false) (Ag TT disp K d true) K f) (.ptr B.c 0) (.int .i64 (n:Int)) (.int .i64 (i:Int)) m) fun v h'=>v=I 0/\∃Z,Ey h h' B X F Z/\Cc Z L mt/\Rcy X Z n:=fun m Z c3 a O=>by
    simp only[Jw,Ac];rw[Cq,show((i:Nat):Int)+1=((i+1:Nat):Int) by omega];exact H (i+1) m Z (by omega) (by omega) c3 a O
   have o:Y.dead i=X.dead i:=by
    rw[r.k.dead,r.cl,aO (show ¬(i:Int)<i by omega)];unfold Co.dead;simp
   rw[o];cases u:X.dead i with
   | false=>
    simp only[Ab];refine nx _ _ c2 y ⟨r.k,fun z=>?_,fun z p P=>?_,r.pre⟩
    ·rw[r.cl]
     by_cases e:z=i
     ·subst e;rw[u];simp
     ·have:decide (z<(i:Int))=decide (z<((i+1:Nat):Int)):=by rw[eI];omega
      rw[this]
    ·by_cases e:z=i
     ·subst e;rw[u]at p;cases p
     ·exact r.fr z p (by omega)
   | true=>
    simp only[Ab,Vc];refine Ok.Ap (Bem A hK c2.C y (z:=i) (by rw[o];exact u) hd) ?_;rintro _ m ⟨rfl,Z,c3,a,Q,K7,q⟩;simp only[I,Ac,aC,aA,Ab];refine nx _ _ (c2.trans c3) a ⟨r.k.trans Q,fun z=>?_,fun z p P=>?_,fun d=>?_⟩
    ·rw[K7,r.cl]
     by_cases e:z=i
     ·subst e;rw[u,aP (show((i:Nat):Int)<((i+1:Nat):Int) by omega)];simp
     ·have:decide (z<(i:Int))=decide (z<((i+1:Nat):Int)):=by rw[eI];omega
      rw[this,aO e];simp
    ·rw[q,r.k.g]
     by_cases e:z=i
     ·subst e
      unfold upd;rw[aH rfl];simp
     ·have:=r.fr z p (by omega)
      unfold upd;split
      ·rename_i e2;rw[<-e2];exact bJ.2 (.inl this)
      ·exact this
    ·obtain⟨ex,he⟩:=r.pre d
     rw[q];unfold upd;split
     ·rename_i e2;subst e2;rw[he];exact⟨ex++[(i:Int)],by rw[cR]⟩
     ·exact⟨ex,he⟩
  ·have:i=n:=by omega
   subst this;have:decide ((i:Int)<(i:Int))=false:=by simp
   simp only[this,Ab,Vh];exact .ret ⟨rfl,Y,c1,y,r⟩
end
theorem Cc.swap(C:Cc X L mt):Cc { X with cur:=swC X.cur X.Bt 3,Bt:=swC X.Bt X.cur 3 } L mt/\∀z,({ X with cur:=swC X.cur X.Bt 3,Bt:=swC X.Bt X.cur 3 }:Co).closed z=X.closed z:=by
 have e:∀(f k:Nat->Int) i,i<3->swC f k 3 i=k i:=fun f k i m=>aH m
 have ar:∀z,arB { X with cur:=swC X.cur X.Bt 3,Bt:=swC X.Bt X.cur 3 } z↔arB X z:=fun z=>by
  constructor
  ·rintro⟨i,m,h⟩
   refine⟨i,m,?_⟩;have h:z=swC X.cur X.Bt 3 i\/z=swC X.Bt X.cur 3 i:=h;rw[e _ _ _ m,e _ _ _ m]at h;exact h.symm
  ·rintro⟨i,m,h⟩
   refine⟨i,m,?_⟩;show z=swC X.cur X.Bt 3 i\/z=swC X.Bt X.cur 3 i;rw[e _ _ _ m,e _ _ _ m];exact h.symm
 have o:∀z,Go.Ev.Xb (swC X.cur X.Bt 3) (swC X.Bt X.cur 3) z=Go.Ev.Xb X.cur X.Bt z:=fun z=>by
  rw[eD,Asr,Asr];constructor
  ·rintro⟨i,m,h⟩
   rw[e _ _ _ m,e _ _ _ m]at h;exact⟨i,m,h.symm⟩
  ·rintro⟨i,m,h⟩
   refine⟨i,m,?_⟩;rw[e _ _ _ m,e _ _ _ m];exact h.symm
 have cl:∀z,({ X with cur:=swC X.cur X.Bt 3,Bt:=swC X.Bt X.cur 3 }:Co).closed z=X.closed z:=fun z=>by
  unfold Co.closed;simp only[o]
 refine⟨⟨C.c,C.un,fun i m=>?_,fun z p=>C.arz z ((ar z).1 p),C.s2,C.opm,C.len,C.lb,fun b x bs q t=>?_,C.sq,C.nm⟩,cl⟩
 ·obtain⟨a,b,c⟩:=C.ar i m
  show Bo X.S.g (swC X.cur X.Bt 3 i)=i/\Bo X.S.g (swC X.Bt X.cur 3 i)=i/\¬swC X.cur X.Bt 3 i=swC X.Bt X.cur 3 i;rw[e _ _ _ m,e _ _ _ m];exact⟨b,a,fun y=>c y.symm⟩
 ·rcases C.Awn b x bs q t with y|y
  ·exact .inl y
  ·exact .inr ⟨y.st,y.ok,y.rc,y.m1,y.m2,by rw[cl,cl];exact y.wh⟩
end
section
structure Ckp(X Y:Co):Prop where
 es:Y.es=X.es
 nm:Y.gen=X.gen+1/\Y.ep=X.ep/\Y.nx=X.nx/\Y.st=X.st
 g:Y.S.g=X.S.g
 o:Y.S.a=X.S.a/\Y.S.b=X.S.b/\Y.S.u=X.S.u
 cl:∀z,Y.closed z=(X.closed z&&!X.dead z)
 fr:∀z,X.dead z=true->z∈Y.S.ps (Bo X.S.g z).toNat
 pre:∀d,∃ex,Y.S.ps d=X.S.ps d++ex
theorem Ckp.dead(c:Ckp X Y)(z:Int):Y.dead z=false:=by
 have h:=c.cl z;unfold Co.dead at h⊢;rw[h,c.es,c.g];cases X.closed z<;>cases decide (X5 X.S.g X.es z=0)<;>rfl
theorem Boc(C:Cc X L mt)(g:X.gen<281474976710655)(h2:X.nx<=281474976710655):snR (X.gen+1) X.ep X.nx X.es=true:=by
 obtain⟨a,b,c⟩:=C.nm;have l:Avu X.nx X.es=false:=by
  unfold Avu;rw[List.any_eq_false];intro x f;have:=C.sq x f;simp only[aU];omega
 unfold snR;rw[l,b];simp only[aV,aU,cu];exact⟨⟨by omega,by omega⟩,⟨by omega,by omega⟩,⟨by omega,by omega⟩,trivial⟩
section
variable (A:Bv disp)(hK:10000<K)
include A hK
theorem Aj8(C:Dw h B X F)(c:Cc X L mt)(hg:X.gen<281474976710655)(hx:X.nx<=281474976710655)(hd:21<=d):Ok (Ag TT disp K d false 61 [.ptr B.c 0] h) fun v h'=>v=I 0/\∃Y,Ey h h' B X F Y/\Cc Y L mt/\Ckp X Y:=by
 obtain⟨e,rfl⟩:∃k,d=k+1:=⟨d-1,by omega⟩;rw[Ahx A (by omega)];simp only[Aaw,Ab];rw[C.ldM];obtain⟨D,V,dr⟩:=Agx A hK C.M C.hb;rw[dr.Dr];have hf:=Akk c.c.ev c.c.up;refine Ok.Ap (dr.flush (d:=e) (by omega)) ?_;rintro v h1 ⟨rfl,M1,kf,aw⟩;have c1:=C.H9 M1 kf aw (Ba2 (Asc _));have q1:Dq X.S { X.S with dr:=X.S.dr.flush.1 } fun _=>False:=by rw[hf];exact Dq.Q3 c.c
 have E:=c.dq q1 (fun _ _ y=>y.elim) fun _ _ _=>⟨id,id⟩
 rw[hf];rw[hf]at c1 E q1;have U:Kc X { X with S:={ X.S with dr:=X.S.Q3.dr } }:=⟨rfl,⟨rfl,rfl,rfl,rfl⟩,rfl,rfl,rfl,rfl⟩;have l1:∀z,({ X with S:={ X.S with dr:=X.S.Q3.dr } }:Co).closed z=X.closed z:=Ol q1;have p1:({ X with S:={ X.S with dr:=X.S.Q3.dr } }:Co).S.ps=X.S.ps:=rfl;have aa:({ X with S:={ X.S with dr:=X.S.Q3.dr } }:Co).gen=X.gen:=rfl;simp only at c1 E;generalize ({ X with S:={ X.S with dr:=X.S.Q3.dr } }:Co)=q at c1 E U l1 p1 aa;simp only[Ac,aC,aA,Ab,Va];rw[c1.C.ldG];simp only[I,Ac];rw[Cq (by have:=E.nm.1;omega) (by omega)];have lc:=c1.hb _ _ c1.C.core;refine Ok.st1 c1.C.core rfl rfl (by show 3<7;decide) ?_;have c2:=c1.trans (c1.C.Boo (q.gen+1) q.ep q.nx q.st);have e2:(q.cells B).set 3 (.int .i64 (q.gen+1))=({ q with gen:=q.gen+1,ep:=q.ep,nx:=q.nx,st:=q.st }:Co).cells B:=rfl;rw[e2];have t:Cc { q with gen:=q.gen+1,ep:=q.ep,nx:=q.nx,st:=q.st } L mt:=⟨E.c,E.un,E.ar,E.arz,E.s2,E.opm,E.len,E.lb,fun b x bs hx hl=>(E.Awn b x bs hx hl).imp id fun y=>⟨y.st,y.ok,y.rc,y.m1,y.m2,y.wh⟩,E.sq,⟨by show 0<=q.gen+1;have:=E.nm.1;omega,E.nm.2⟩⟩;have hR:snR (q.gen+1) q.ep q.nx q.es=true:=Boc E (by rw[aa];exact hg) (by rw[U.nm.2.2.1];exact hx);have k2:({ q with gen:=q.gen+1,ep:=q.ep,nx:=q.nx,st:=q.st }:Co).es=X.es/\(q.gen+1=X.gen+1/\q.ep=X.ep/\q.nx=X.nx/\q.st=X.st)/\q.S.g=X.S.g/\(q.S.a=X.S.a/\q.S.b=X.S.b/\q.S.u=X.S.u)/\(∀z,({ q with gen:=q.gen+1,ep:=q.ep,nx:=q.nx,st:=q.st }:Co).closed z=X.closed z)/\q.S.ps=X.S.ps:=⟨U.es,⟨by rw[aa],U.nm.2.1,U.nm.2.2.1,U.nm.2.2.2⟩,U.g,U.o,l1,p1⟩;have eY:∀f:Co,f = { q with gen:=q.gen+1,ep:=q.ep,nx:=q.nx,st:=q.st }->snR f.gen f.ep f.nx f.es=true/\f.es=X.es/\(f.gen=X.gen+1/\f.ep=X.ep/\f.nx=X.nx/\f.st=X.st)/\f.S.g=X.S.g/\(f.S.a=X.S.a/\f.S.b=X.S.b/\f.S.u=X.S.u)/\(∀z,f.closed z=X.closed z)/\f.S.ps=X.S.ps:=fun f h=>by subst h;exact⟨hR,k2⟩
 have ad:=eY _ rfl;generalize ({ q with gen:=q.gen+1,ep:=q.ep,nx:=q.nx,st:=q.st }:Co)=f at c2 t ad⊢;generalize h1.put B.c (.cells (f.cells B) 109)=h2 at c2⊢;obtain⟨ay,az,a0,g2,o2,l2,p2⟩:=ad;have O:=c2.hb _ _ c2.C.core;rw[Jb O,c2.C.Jb];simp only[Ab,Au];rw[Jb O,c2.C.ldG];simp only[Ab,Au];rw[Jb O,c2.C.ldE];simp only[Ab,Au];rw[Jb O,c2.C.ldN];simp only[Ab,Au];rw[Jb O,c2.C.ldB];simp only[Ab,Au];rw[Ax (l:=[I f.gen,I f.ep,I f.nx,.ptr B.b 0]) rfl];obtain⟨n1,n2,n3,n4,n5,n6,n7,n8,n9,ct⟩:=c2.C.ne;have C2:=c2.C.lift;have hT:∀i,i<3->Tz f.S (f.Bt i)/\f.S.Ex (f.Bt i)=false/\Bo f.S.g (f.Bt i)=i:=fun i G=>by
  obtain⟨_,b,_⟩:=t.ar i G;obtain⟨a1,a2,_⟩:=t.arz _ ⟨i,G,.inr rfl⟩;exact⟨t.tz (by omega) a1 a2,t.Ex _,b⟩
 have ag:Idle f.S (Awp f.Bt 3):=fun z H ⟨i,G,ei⟩=>by
  obtain⟨_,b,_⟩:=t.ar i G;have:z=f.Bt i:=T9 t.c.sm H (by omega) ei;obtain⟨a1,a2,a3,_⟩:=t.arz z ⟨i,G,.inr this⟩;exact⟨a1,a2,a3⟩
 have wr:=Bkz (K:=K) A hK (ar:=B.ar) (m:=B.m) (b:=B.b) (ml:=B.ml) (ll:=B.ll) (F:=B.fr F) (es:=f.es) (.inr (.inr (.inl rfl))) ⟨.inr (.inr (.inr (.inl rfl))),.inr (.inr (.inr (.inr (.inl rfl)))),.inr (.inr (.inr (.inr (.inr rfl)))),n5.symm,n6.symm,n7.symm⟩ (x:=f.gen) (y:=f.ep) (w:=f.nx) (d:=e) (by omega) ay t.c hT ag C2.M C2.hb C2.ar C2.map;refine Ok.bC (S:=fun j=>¬B.fr F j\/j=B.ar) wr (fun _ _ p=>p.2.2.2.1) ?_;rintro _ cx h3 s' ⟨rfl,⟨T,M3,P⟩,A3,_,a6⟩ sm ch cG;have a7:Bcx T (swC f.cur f.Bt 3) (swC f.Bt f.cur 3):=by
  refine⟨fun i G=>.inr ?_,fun i G=>.inr ?_⟩
  ·rw[show swC f.cur f.Bt 3 i=f.Bt i from aH G,P.g];exact(t.ar i G).2.1
  ·rw[show swC f.Bt f.cur 3 i=f.cur i from aH G,P.g];exact(t.ar i G).1
 have c3:=c2.trans (c2.C.Bp5 (M3.same sm) (by rw[sm.get];exact A3) ch (sm.hb a6) (P.mk' t.c) a7);have lv:∀x∈f.es,x.state=1->¬Awp f.Bt 3 x.Ah.toNat/\¬Awp f.Bt 3 x.Ay.toNat:=fun x hx h1=>by
  obtain⟨b,hb⟩:=cV.1 hx;have ba:b<L.length:=by rw[t.len];exact(aY.1 hb).1
  rcases t.Awn b x _ hb (aD ba)with w|w
  ·rw[w.1]at h1;cases h1
  ·obtain⟨z1,z2⟩:=w.Zq
   have no:∀z,0<=Bo f.S.g z->(z=f.S.a\/z=f.S.b\/f.closed z=true)->¬Awp f.Bt 3 z.toNat:=fun z H hw ⟨i,G,ei⟩=>by
    obtain⟨_,bb,_⟩:=t.ar i G;have e':z=f.Bt i:=T9 t.c.sm H (by omega) ei;obtain⟨a1,a2,_⟩:=t.arz z ⟨i,G,.inr e'⟩;rcases hw with w|w|w
    ·exact a1 w
    ·exact a2 w
    ·have:=(Ew.1 w).2.2.2.2.1
     rw[(t.Xb z).2 ⟨i,G,.inr e'⟩]at this;cases this
   rcases w.wh with⟨w1,w2⟩|⟨w1,w2⟩
   ·exact⟨no _ z1 (.inl w1),no _ z2 (.inr (.inl w2))⟩
   ·exact⟨no _ z1 (.inr (.inr w1)),no _ z2 (.inr (.inr w2))⟩
 obtain⟨bf,l3⟩:=(t.dq P ag lv).swap;have bj:∀z,({ f with S:=T,cur:=swC f.cur f.Bt 3,Bt:=swC f.Bt f.cur 3 }:Co).closed z=X.closed z:=fun z=>(l3 z).trans ((Ol P z).trans (l2 z))
 have g3:T.g=X.S.g:=P.g.trans g2;have o3:T.a=X.S.a/\T.b=X.S.b/\T.u=X.S.u:=⟨P.o.1.trans o2.1,P.o.2.1.trans o2.2.1,P.o.2.2.trans o2.2.2⟩;have p3:T.ps=X.S.ps:=P.ps.trans p2;simp only[Ab,I,Ac,aC,aA,Vi];have W:Cc ({ f with S:=T,cur:=swC f.cur f.Bt 3,Bt:=swC f.Bt f.cur 3 }:Co) L mt:=bf;have eZ:∀Z:Co,Z = { f with S:=T,cur:=swC f.cur f.Bt 3,Bt:=swC f.Bt f.cur 3 }->Z.es=X.es/\(Z.gen=X.gen+1/\Z.ep=X.ep/\Z.nx=X.nx/\Z.st=X.st)/\Z.S.g=X.S.g/\(Z.S.a=X.S.a/\Z.S.b=X.S.b/\Z.S.u=X.S.u)/\(∀z,Z.closed z=X.closed z)/\Z.S.ps=X.S.ps:=fun Z h=>by subst h;exact⟨az,a0,g3,o3,bj,p3⟩
 have ah:=eZ _ rfl;generalize ({ f with S:=T,cur:=swC f.cur f.Bt 3,Bt:=swC f.Bt f.cur 3 }:Co)=Z at c3 W ah;obtain⟨ai,Q,gZ,oZ,lZ,pZ⟩:=ah;rw[c3.C.ldM];refine Aib A c3.C fun h4 x4=>?_
 have c4:=c3.C.toE x4;have bd:=C.sm.Ah7;obtain⟨n,hn⟩:=a8 (show 0<=X.S.g.D*X.S.g.Z by omega);rw[gZ,hn];have db:=c3.trans c4;refine(A2i (X:=Z) A hK (by rw[gZ];exact hn) (d:=e) (by omega) c3.C.sm K 0 h4 Z (by omega) (by omega) c4 W ⟨Kc.refl Z,fun z=>?_,fun z H hl=>?_,fun d=>⟨[],by simp⟩⟩).mono ?_
 ·cases H:Z.dead z with
  | false=>simp
  | true=>
   have:=(Ew.1 (Wi.1 H).1).1;have:=Je c3.C.sm this;rw[aO (show ¬z<((0:Nat):Int) by omega)];simp
 ·have:=Je c3.C.sm (Ew.1 (Wi.1 H).1).1
  omega
 rintro v h5 ⟨rfl,Y,c5,bn,J⟩;have al:∀z,Z.dead z=X.dead z:=fun z=>by unfold Co.dead;rw[lZ,ai,gZ]
 have lt:∀z,X.dead z=true->z<(n:Int):=fun z H=>by
  have:=(Ew.1 (Wi.1 H).1).1;rcases I9 C.sm z with y|⟨_,_,_,_,y⟩
  ·omega
  ·omega
 refine⟨rfl,Y,c3.trans c5,bn,⟨J.k.es.trans ai,⟨J.k.nm.1.trans Q.1,J.k.nm.2.1.trans Q.2.1,J.k.nm.2.2.1.trans Q.2.2.1,J.k.nm.2.2.2.trans Q.2.2.2⟩,J.k.g.trans gZ,⟨J.k.o.1.trans oZ.1,J.k.o.2.1.trans oZ.2.1,J.k.o.2.2.trans oZ.2.2⟩,fun z=>?_,fun z H=>?_,fun d=>?_⟩⟩
 ·rw[J.cl,al,lZ]
  cases H:X.dead z with
  | false=>simp
  | true=>rw[aP (lt z H)];simp
 ·have:=J.fr z (by rw[al];exact H) (lt z H)
  rw[gZ]at this;exact this
 ·obtain⟨ex,he⟩:=J.pre d
  exact⟨ex,by rw[he,pZ]⟩
end
end
section
theorem Au4{a:Nat}(f:¬a=b)(g:a<n)(hb:b<n)(h:∀e,e<n->(ps e).length<=(ps' e).length):Nl ps n+(ps' a).length+(ps' b).length<=Nl ps' n+(ps a).length+(ps b).length:=by
 have u:=Amt (ps:=ps) (d:=a) (l:=ps' a) n;rw[aH g]at u;have m:=Aqx (ps:=upd ps a (ps' a)) (ps':=ps') (d:=b) n hb fun e he=>by
  unfold upd;split
  ·rename_i e2;rw[e2];exact aE _
  ·exact h e he
 rw[show upd ps a (ps' a) b=ps b from aF (fun y=>f y.symm)]at m;omega
theorem A9d{a:Nat}(f:¬a=b)(g:a<n)(hb:b<n)(h:∀e,e<n->(ps e).length<=(ps' e).length)(k:(ps a).length<(ps' a).length)(lb:(ps b).length<(ps' b).length):Fh ps n+1<=Fh ps' n:=by
 obtain⟨p1,i⟩:=(Y5 (ps:=ps) (n:=n) (by omega) _).1 (cY (Fh ps n));refine(Y5 (by omega) _).2 ⟨?_,fun d hd=>?_⟩
 ·have:=Au4 f g hb h;omega
 ·have m:=i d hd
  by_cases e1:d=a
  ·subst e1;have:=Au4 f g hb h;omega
  ·have:=Au4 (a:=d) (b:=a) e1 hd g h;omega
theorem Bfq {S T:Mi}(g:T.g=S.g)(o:T.a=S.a/\T.b=S.b/\T.u=S.u):T.room=S.room:=by unfold Mi.room;rw[g,o.1,o.2.2]
theorem Ckp.len(k:Ckp X Y):∀d,(X.S.ps d).length<=(Y.S.ps d).length:=fun d=>by
 obtain⟨ex,he⟩:=k.pre d;rw[he,aG];omega
theorem Ckp.free(k:Ckp X Y)(c:Cc X L mt):X.S.free<=Y.S.free/\(∀z1 f,X.dead z1=true->X.dead f=true->¬Bo X.S.g z1=Bo X.S.g f->X.S.free+X.S.g.S<=Y.S.free):=by
 have s:=c.c.sm;have:=s.d0;have:=s.s0;unfold Mi.free;rw[k.g,Bfq k.g k.o];refine⟨?_,fun z1 f t h2 hd=>?_⟩
 ·have:=bP (A8p (n:=X.S.g.D.toNat) (by omega) fun d _=>k.len d) (show 0<=X.S.g.S by omega)
  omega
 ·have dz:∀z,X.dead z=true->0<=Bo X.S.g z/\(Bo X.S.g z).toNat<X.S.g.D.toNat/\(X.S.ps (Bo X.S.g z).toNat).length<(Y.S.ps (Bo X.S.g z).toNat).length:=fun z m=>by
   obtain⟨p,_,_,_,_,q⟩:=Ew.1 (Wi.1 m).1;have i:(Bo X.S.g z).toNat<X.S.g.D.toNat:=by
    rcases I9 s z with y|⟨_,y,_⟩<;>omega
   refine⟨p,i,?_⟩;obtain⟨ex,he⟩:=k.pre (Bo X.S.g z).toNat;have hm:=k.fr z m;rw[he]at hm⊢;rcases bJ.1 hm with y|y
   ·rw[Is.2 ⟨_,i,y⟩]at q;cases q
   ·have:=List.length_pos_of_mem y
    rw[aG];omega
  obtain⟨p,u,v⟩:=dz z1 t;obtain⟨b1,b2,b3⟩:=dz f h2;have:=A9d (a:=(Bo X.S.g z1).toNat) (b:=(Bo X.S.g f).toNat) (by omega) u b2 (fun d _=>k.len d) v b3;have:=bP this (show 0<=X.S.g.S by omega);rw[Int.mul_add,Int.mul_one]at this;omega
structure Pt(X Y:Co)(mt mt':Int->Int)(e:En)(x:Me):Prop where
 es:Y.es=X.es
 nm:Y.gen=X.gen/\Y.ep=X.ep/\Y.nx=X.nx+1/\Y.st=X.st
 g:Y.S.g=X.S.g
 free:X.S.free-1<=Y.S.free
 cl:∀z,X.closed z=true->Y.closed z=true
 mt:∀x∈X.es,x.state=1->mt' x.Ah=mt x.Ah/\mt' x.Ay=mt x.Ay
 lv:¬e.kind=2->Jv Y mt' x e.bytes
 sq:x.seq=X.nx
 st:x.state=1
 sm:x.sum=(E6 e.bytes:Nat)
 rg:Rng x.Ah/\Rng x.Ay
 op:x.Ah=Y.S.a/\x.Ay=Y.S.b
theorem Bb9(c:Cc X L mt)(f:e.Wf)(he:EOk e X.ep X.nx)(t:1<=X.S.free):∃T mt' x,X.S.place e X.ep X.nx=(T,x,0)/\Cc { X with S:=T,nx:=X.nx+1 } L mt'/\Pt X { X with S:=T,nx:=X.nx+1 } mt mt' e x:=by
 obtain⟨T,i⟩:=Bab c.c t;obtain⟨mt',c1,f1,a,u,l1,m1⟩:=c.opened i;obtain⟨c2,f2,rc⟩:=c1.Tn a f he;obtain⟨k,m,n3,n4,D,E,G⟩:=c1.c.ne a;have pl:=A8h c.c he;rw[i]at pl;have s:=c1.c.sm;have o:=c1.opm a.1;refine⟨_,mt',_,pl,c2,rfl,⟨rfl,rfl,rfl,rfl⟩,u,?_,fun z p=>?_,m1,fun v=>⟨rfl,?_,rc v,o.1,o.2,.inl ⟨rfl,rfl⟩⟩,rfl,rfl,rfl,⟨Zt s k,Zt s m⟩,rfl,rfl⟩
 ·show X.S.free-1<=(T.Tn e X.ep X.nx).free
  have:(T.Tn e X.ep X.nx).free=T.free-1:=f2;omega
 ·have:=l1 z (Ew.1 p).1 p
  exact this
 ·have y:=EOk.seq he
  have C:=c.nm.2.2;have hs:=A2j (l:=e.bytes) f.u8;have q:=a.2;show meB T.g _=true;unfold meB;simp only[aV,aU];refine⟨A5l c1.c.rt k n4 q,A5l c1.c.rt m n4 q,n3,C,y.2.1,by omega,by omega⟩
section
variable (A:Bv disp)(hK:10000<K)
include A hK
theorem Bm9(hd:22<=d)(w:e.Wf)(C:Dw h B X F)(c:Cc X L mt)(he:EOk e X.ep X.nx)(W:1<=X.S.free)(hx:X.nx<=281474976710655):Ok (Ag TT disp K d false 78 [.ptr B.c 0,.agg e.cells] h) fun v h'=>∃x Y mt',v=.tuple [.agg x.cells,I 0]/\Ey h h' B X F Y/\Cc Y L mt'/\Pt X Y mt mt' e x:=by
 obtain⟨dd,rfl⟩:∃k,d=k+1:=⟨d-1,by omega⟩;rw[Aha A (by omega)];simp only[Ahw,Ab];rw[show(h.new (.cells e.cells 131)).next=h.next+1 from rfl];have t:Ext h ((h.new (.cells e.cells 131)).new (.cells (Me.nil 0).cells 47)):=(Ar.new _ _).Df _;have Z:((h.new (.cells e.cells 131)).new (.cells (Me.nil 0).cells 47)).next=h.next+2:=rfl
 have u:((h.new (.cells e.cells 131)).new (.cells (Me.nil 0).cells 47)).get h.next=some (.cells e.cells 131):=by rw[Aw _ (aL _)];exact Ad _ _
 have P:((h.new (.cells e.cells 131)).new (.cells (Me.nil 0).cells 47)).get (h.next+1)=some (.cells (Me.nil 0).cells 47):=Ad _ _;rw[show[EV.int .i64 0,.int .i64 0,.int .i64 0,.int .i64 0,.int .i64 0,.int .i64 0]=(Me.nil 0).cells from rfl];generalize (h.new (.cells e.cells 131)).new (.cells (Me.nil 0).cells 47)=q at t Z u P⊢;have a:=C.ext t;have f4:Bf F h q (h.next+1):=.inr ⟨by omega,by omega⟩;rw[a.ldS,c.un];simp only[Ab];have lc:=a.hb _ _ a.core;have l3:=a.hb _ _ u;have el:=En.Bm w;simp only[Sr,Ab];rw[Jb lc,a.ldM];simp only[Ab,Au];rw[Jb l3,Cr u rfl (Ak el)];simp only[Ab,Au];rw[Jb lc,a.ldE];simp only[Ab,Au];rw[Jb lc,a.ldN];simp only[Ab,Au];have Q:=a.lift;obtain⟨T,mt',x,hp,cc,pt⟩:=Bb9 c w he W;have pl:=A14 A hK (d:=dd) (by omega) Q.M Q.hb w X.ep X.nx;rw[hp]at pl;refine Ok.bC (S:=fun j=>¬B.fr (Bf F h q) j) pl (fun _ _ p=>p.2.2.1) ?_;rintro _ ae h2 s' ⟨rfl,M',_,D⟩ sm ch E;have mk:=A5e X.S e X.ep X.nx;rw[hp]at mk;have c2:=a.H9 (M'.same sm) ch (sm.hb D) mk;have G:=c2.k.at a.hb P f4;simp only[Ab];rw[J6 (by rcases E with rfl|⟨w,rfl,_⟩<;>kernel_rfl)];refine Ok.mk rfl rfl fun m U e3 _=>?_
 have c3:=c2.trans (c2.C.toE U);have H:=U.at c2.hb G;have J:B.c≠h2.next:=by have:=c2.hb _ _ c2.C.core;omega
 have O:B.c≠h.next+1:=fun y=>a.out _ f4 (.inl y.symm)
 simp only[I,Ac,aB,Ab];rw[c3.C.ldN];simp only[I,Ac];rw[Cq (by show _<=X.nx+1;have:=c.nm.2.2;omega) (by show X.nx+1<=_;omega)];refine Ok.st1 c3.C.core rfl rfl (by show 5<7;decide) ?_;have c4:=c3.trans (c3.C.Boo X.gen X.ep (X.nx+1) X.st);have o:(m.put B.c (.cells (({ X with S:=T,nx:=X.nx+1 }:Co).cells B) 109)).get h2.next=some (.cells x.cells 47):=by rw[Af _ J];exact e3
 have g:(m.put B.c (.cells (({ X with S:=T,nx:=X.nx+1 }:Co).cells B) 109)).get (h.next+1)=some (.cells (Me.nil 0).cells 47):=by rw[Af _ O];exact H
 have f:Ey q (m.put B.c (.cells (({ X with S:=T,nx:=X.nx+1 }:Co).cells B) 109)) B X (Bf F h q) { X with S:=T,nx:=X.nx+1 }:=c4;show Ok (On _ _ _ _ _ _ (m.put B.c (.cells (({ X with S:=T,nx:=X.nx+1 }:Co).cells B) 109))) _;generalize m.put B.c (.cells (({ X with S:=T,nx:=X.nx+1 }:Co).cells B) 109)=h4 at f o g⊢;have V:=f.hb _ _ g;simp only[On,dr];rw[Cr o rfl (Ak (n:=6) rfl)];refine Ok.stW g rfl rfl ?_;rw[Ff (Ae _ _ _) Az6.1 Az6.2 rfl];exact .ret ⟨x,_,mt',rfl,Ey.Bkj t f ((Ar.refl (S:=fun i=>i=h.next+1) h4).Aq (.inl rfl) V _) (fun i hi=>by subst hi;omega) (f.hb.put V _),cc,pt⟩
end
end
section
noncomputable def Mi.E0(S:Mi):Mi:={ S with dr:={ S.dr with dv:=S.dr.dv.tick } }
theorem Dq.E0 {S:Mi}(c:Calm S):Dq S S.E0 fun _=>False:=⟨rfl,rfl,rfl,⟨rfl,rfl,rfl⟩,c.ev,c.up,rfl,rfl,rfl,rfl,fun _ _=>⟨rfl,rfl⟩,fun _ y=>y.elim⟩
theorem Cc.q0(C:Cc X L mt){T:Mi}(q:Dq X.S T fun _=>False):Cc { X with S:=T } L mt:=C.dq q (fun _ _ y=>y.elim) fun _ _ _=>⟨fun y=>y,fun y=>y⟩
theorem Cc.copy(C:Cc X L mt){bs:List Nat}(l:Jv X mt x bs):X.S.Db x x.Ah x.Ay=(X.S.E0,bs,true,0)/\X.S.Db x x.Ay x.Ah=(X.S.E0,bs,true,0):=by
 obtain⟨e,a,f,k,g,es,m,o⟩:=l.rc.ex;obtain⟨p,h2,hd,E,_⟩:=At9 l.ok;obtain⟨d1,o0,o1⟩:=Yt p;obtain⟨d2,_,_⟩:=Yt h2;obtain⟨z0,q,t,z1⟩:=Sn C.c d1;obtain⟨i,u,v,m1⟩:=Sn C.c d2;have sm:=C.c.sm;have s1:=sm.s1;have st1:=(C.s2 _ q).1;have y:=(C.s2 _ u).1;have c1:=Aoy (x:=x) C.c.ev C.c.up a (g.at (z:=x.Ah) (mt:=x.Ay) (off:=x.off) z0 (by omega) i (by omega) o0 (by omega)) rfl t (by omega) o0 m;have c2:=Aoy (x:=x) C.c.ev C.c.up a (g.at (z:=x.Ay) (mt:=x.Ah) (off:=x.off) i (by omega) z0 (by omega) o0 (by omega)) rfl v (by omega) o0 o;have D:¬e.kind=2/\x.seq=x.seq/\((E6 e.bytes:Nat):Int)=x.sum:=⟨k,rfl,by rw[f];exact es.symm⟩;rw[aH D]at c1 c2;rw[c1,c2,<-f];exact⟨rfl,rfl⟩
theorem Jv.Bnj{bs:List Nat}(l:Jv X mt x bs):Amn X.S.g x=true:=by
 unfold Amn;rw[aP l.st,l.ok];rfl
theorem Cc.read(C:Cc X L mt){bs:List Nat}(l:Jv X mt x bs):X.S.read x=(X.S.E0,bs,0):=by
 unfold Mi.read;rw[aF (by rw[l.Bnj];decide),(C.copy l).1,aH (.inl rfl)]
theorem Cc.check(C:Cc X L mt){bs:List Nat}(l:Jv X mt x bs):X.S.check x=(X.S.E0.E0,bs,2,0):=by
 have a:=C.q0 (Dq.E0 C.c);have g:Jv { X with S:=X.S.E0 } mt x bs:=by
  refine⟨l.st,l.ok,l.rc.dq (Dq.E0 C.c) (fun y=>y) fun y=>y,l.m1,l.m2,?_⟩;rw[Ol (Dq.E0 C.c),Ol (Dq.E0 C.c)];exact l.wh
 have f:=(a.copy g).2;unfold Mi.check;rw[aF (by rw[l.Bnj];decide),(C.copy l).1];simp only[aC,ak];rw[show(({ X with S:=X.S.E0 }:Co).S.Db x x.Ay x.Ah)=X.S.E0.Db x x.Ay x.Ah from rfl]at f;rw[f];unfold Mi.Azf;have b1:X.S.E0.Ex x.Ah=false:=a.Ex _;have b2:X.S.E0.E0.Ex x.Ay=false:=(a.q0 (Dq.E0 a.c)).Ex _;simp only[aC,ak,b1,bI,and_self,fC];rw[show(({ X with S:=X.S.E0 }:Co).S.E0)=X.S.E0.E0 from rfl,b2];rfl
structure Mvs(X Y:Co)(D:Nat->Prop)(k:Nat):Prop where
 len:Y.es.length=X.es.length
 Ju:∀(b:Nat) x,¬D b->X.es[b]? = some x->Y.es[b]? = some x
 mvd:∀(b:Nat) x,D b->X.es[b]? = some x->∃y,Y.es[b]? = some y/\y.state=1/\X.closed y.Ah=false/\X.closed y.Ay=false/\y.sum=x.sum/\X.nx<=y.seq
 nm:Y.gen=X.gen/\Y.ep=X.ep/\Y.nx=X.nx+k/\Y.st=X.st
 g:Y.S.g=X.S.g
 free:X.S.free-k<=Y.S.free
 cl:∀z,X.closed z=true->Y.closed z=true
theorem Mvs.refl(X:Co):Mvs X X (fun _=>False) 0:=⟨rfl,fun _ _ _ h=>h,fun _ _ y=>y.elim,⟨rfl,rfl,by simp,rfl⟩,rfl,by simp,fun _ h=>h⟩
theorem Mvs.trans {Z:Co}{D E:Nat->Prop}{k l:Nat}(a:Mvs X Y D k)(b:Mvs Y Z E l):Mvs X Z (fun i=>D i\/E i) (k+l):=by
 have m:∀z,Y.closed z=false->X.closed z=false:=fun z h=>by
  cases f:X.closed z with
  | false=>rfl
  | true=>rw[a.cl z f]at h;exact h
 refine⟨b.len.trans a.len,fun i x o f=>b.Ju i x (fun y=>o (.inr y)) (a.Ju i x (fun y=>o (.inl y)) f),fun i x o f=>?_,⟨b.nm.1.trans a.nm.1,b.nm.2.1.trans a.nm.2.1,by have:=a.nm.2.2.1;have:=b.nm.2.2.1;omega,b.nm.2.2.2.trans a.nm.2.2.2⟩,b.g.trans a.g,by have:=a.free;have:=b.free;omega,fun z h=>b.cl z (a.cl z h)⟩;have H:=a.nm.2.2.1;rcases fG (D i)with d|d
 ·obtain⟨y,C,h2,J,h4,G,M⟩:=a.mvd i x d f
  rcases fG (E i)with e|e
  ·obtain⟨w,p,q,t,u,v,O⟩:=b.mvd i y e C
   exact⟨w,p,q,m _ t,m _ u,v.trans G,by omega⟩
  ·exact⟨y,b.Ju i y e C,h2,J,h4,G,M⟩
 ·have e:=o.resolve_left d
  obtain⟨w,p,q,t,u,v,O⟩:=b.mvd i x e (a.Ju i x d f);exact⟨w,p,q,m _ t,m _ u,v,by omega⟩
theorem Bf8 {n j:Int}{bl:List Nat}(i:bl.length=32)(h0:1<=n)(a:n<=281474976710655)(f:0<=j)(g:j<=255):EOk ⟨3,n,1,j,0,0,bl⟩ 1 n:=by
 unfold EOk Ee;rw[aH];refine⟨?_,?_,cY _,by show n-1<n;omega⟩
 ·unfold erB Aki
  simp only[aV,Ec];refine⟨⟨by omega,a⟩,⟨f,g⟩,⟨by decide,by decide⟩,?_⟩;rfl
 ·unfold frB
  simp only[aV,Ec];exact⟨⟨by decide,by decide⟩,⟨by decide,by decide⟩,⟨by decide,by decide⟩,⟨by decide,by decide⟩,by omega,a⟩
end
section
theorem Cc.at(c:Cc X L mt)(f:X.es[j]? = some x)(g:x.state=1):∃bs,L[j]? = some bs/\Jv X mt x bs:=by
 have a:j<L.length:=by rw[c.len];exact(aY.1 f).1
 refine⟨_,aD a,?_⟩;rcases c.Awn j x _ f (aD a)with w|w
 ·rw[w.1]at g;cases g
 ·exact w
theorem Axe {es:List Me}(a:es[j]? = some x):An2 es (j:Int)=(x,0):=by
 have hj:=(aY.1 a).1;unfold An2;rw[aH ⟨by omega,by omega⟩,bD,a];rfl
theorem Jv.meR{bs:List Nat}(l:Jv X mt x bs):meR X.S.g x=true:=by
 unfold Go.Ev.meR;rw[aF (by have:=l.st;omega),aH l.st,l.ok]
section
variable (A:Bv disp)(hK:10000<K)
include A hK
theorem Bd4(C:Dw h B X F)(c:Cc X L mt)(P:X.es[j]? = some x)(h1:x.state=1)(hf:1<=X.S.free)(hn:X.nx<=281474976710655)(hd:22<=d){v5:Nat}(g5:h.get v5=some (.cells x.cells 47)):
 Ok (Vv (Ag TT disp K d false) (Ag TT disp K d true) K (.ptr B.c 0) (I j) (.ptr v5 0) h) fun v h'=>v=I 0/\∃Y mt',Ey h h' B X F Y/\Cc Y L mt'/\Mvs X Y (fun i=>i=j) 1/\∃y,Y.es=X.es.set j y/\y.seq=X.nx:=by
 obtain⟨bs,hL,lv⟩:=c.at P h1;have hj:=(aY.1 P).1;have jb:j<=255:=by have:=c.lb;have:=c.c.sm.b1;omega
 have lc:=C.hb _ _ C.core;have l5:=C.hb _ _ g5;have r:=A9a C.sm lv.meR;simp only[Vv,Ab];rw[Jb lc,C.ldM];simp only[Ab,Au];rw[Jb l5,Cr g5 rfl (Ak (n:=6) rfl)];simp only[Ab,Au];have rd:=Bg0 A hK (d:=d) (by omega) C.lift.M C.lift.hb r.1 r.2;have rk:=Blk X.S x;rw[c.read lv]at rd rk;refine Ok.bC (S:=fun j=>¬B.fr F j) rd (fun _ _ p=>p.2.2.2.1) ?_;rintro _ a4 h2 s' ⟨rfl,t,M',_,Q⟩ sm ch T;have c2:=C.H9 (M'.same sm) ch (sm.hb Q) rk;have o:=c.q0 (Dq.E0 c.c);have u:Mvs X { X with S:=X.S.E0 } (fun _=>False) 0:=⟨rfl,fun _ _ _ h=>h,fun _ _ y=>y.elim,⟨rfl,rfl,by simp,rfl⟩,rfl,by show X.S.free-0<=X.S.free;omega,fun z D=>by rw[Ol (Dq.E0 c.c)];exact D⟩;have e2:({ X with S:=X.S.E0 }:Co).es=X.es/\({ X with S:=X.S.E0 }:Co).nx=X.nx/\({ X with S:=X.S.E0 }:Co).ep=X.ep/\({ X with S:=X.S.E0 }:Co).S.free=X.S.free:=⟨rfl,rfl,rfl,rfl⟩;simp only at c2 o t;generalize ({ X with S:=X.S.E0 }:Co)=Y at c2 o u e2;obtain⟨eY,E,pY,fY⟩:=e2;have ul:(Bj bs).length=32:=by rw[Bg,t.1]
 simp only[Ab];rw[J6 (by rcases T with rfl|⟨w,rfl,_⟩<;>kernel_rfl)];refine Ok.mk (by simp) ul fun h3 x3 g7 _=>?_
 have c3:=c2.trans (c2.C.toE x3);simp only[I,Ac,aB,Ab,Ahm];have U:=c3.hb _ _ c3.C.core;have l7:=c3.hb _ _ g7;rw[Jb U,c3.C.ldN];simp only[Ab,Au];rw[Jb l7,Cr g7 rfl (Ak ul)];simp only[Ab,Au];have fe:=Bbt 3 Y.nx 1 (j:Int) t.1;rw[<-En.Hq]at fe;rw[show(EV.int .i64 3)=I 3 from rfl,show(EV.int .i64 1)=I 1 from rfl,show(EV.int .i64 (j:Int))=I j from rfl,Ax fe];have G:=c.nm;have pc:=Bm9 A hK (d:=d) (by omega) (⟨t.1,t.2⟩:(⟨3,Y.nx,1,(j:Int),0,0,bs⟩:En).Wf) c3.C.lift o (by rw[pY,E,G.2.1];exact Bf8 t.1 G.2.2 hn (by omega) (by omega)) (by rw[fY];exact hf) (by rw[E];exact hn);refine Ok.bC (S:=fun j=>¬F j) pc (fun _ _ p=>by obtain⟨_,_,_,_,p,_⟩:=p;exact p.k) ?_;rintro _ bj h4 s2 ⟨f,Z,mt',rfl,p,cz,a⟩ V W aa;have c4:Ey h3 h4 B Y F Z:=⟨p.C.same V,W,p.ck⟩;have c4:=c3.trans c4;simp only[Ab,I];rw[J6 (by rcases aa with rfl|⟨w,rfl,_⟩<;>kernel_rfl)];refine Ok.mk rfl rfl fun h5 x5 g9 _=>?_
 have q:=c4.trans (c4.C.toE x5);simp only[Ac,aC,aA,Ab,Agy];have ab:=q.hb _ _ q.C.core;have l9:=q.hb _ _ g9;rw[Jb ab,q.C.ldB];simp only[Ab,Au];rw[Jb l9,Cr g9 rfl (Ak (n:=6) rfl)];simp only[Ab,Au];have ll:=a.lv (by show ¬(3:Int)=2;decide);have CL:=q.C.lift;have ms:=Aqn (K:=K) CL.sm CL.map CL.hb (x:=f) (fun _=>a.rg) (j:Int);have H:j<Z.es.length:=by rw[a.es,eY];exact hj
 have sf:A3x Z.S.g Z.es (j:Int) f=(Z.es.set j f,0):=by
  unfold A3x;rw[aH ⟨by omega,by omega⟩,aH ll.meR,bD]
 rw[sf]at ms;refine Ok.bC (S:=fun i=>i=B.ml\/i=B.ll) ms (fun _ _ p=>p.2.2.1) ?_;rintro _ bt h6 s3 ⟨rfl,m6,_,ae⟩ m af _;have c6:=q.trans (q.C.Bok (m6.frame (m.get _) (m.get _) (m.get _)) af (m.hb ae));have cs:=cz.set H (x:=f) (bs:=bs) (.inr ll) (by rw[a.sq,a.nm.2.2.1];omega);have Ls:L.set j bs=L:=by
  apply dW;intro i;rw[dH];split
  ·rename_i e;subst e
   rw[hL];split
   ·rfl
   ·rename_i hh;exact absurd (by rw[c.len];exact hj) hh
  ·rfl
 rw[Ls]at cs;have eZ:Z.es=X.es:=a.es.trans eY;refine .ret ⟨rfl,_,mt',c6,cs,?_,f,by show Z.es.set j f=_;rw[eZ],a.sq.trans E⟩;have nc:∀z,Z.closed z=false->X.closed z=false:=fun z D=>by
  cases J:X.closed z with
  | false=>rfl
  | true=>rw[a.cl z (u.cl z J)]at D;exact D
 have op:Z.closed f.Ah=false/\Z.closed f.Ay=false:=by
  obtain⟨w1,w2⟩:=a.op;constructor
  ·cases J:Z.closed f.Ah with
   | false=>rfl
   | true=>exact absurd w1 (Ew.1 J).2.1
  ·cases J:Z.closed f.Ay with
   | false=>rfl
   | true=>exact absurd w2 (Ew.1 J).2.2.1
 refine⟨by show(Z.es.set j f).length=_;rw[bM,eZ],fun i y hi O=>?_,fun i y hi O=>?_,⟨a.nm.1.trans u.nm.1,a.nm.2.1.trans pY,by show Z.nx=_;rw[a.nm.2.2.1,E];rfl,a.nm.2.2.2.trans u.nm.2.2.2⟩,a.g.trans u.g,?_,fun z D=>a.cl z (u.cl z D)⟩
 ·show(Z.es.set j f)[i]? = some y
  rw[dH,aF (fun e=>hi e.symm),eZ];exact O
 ·subst hi
  rw[P]at O;cases O;refine⟨f,?_,a.st,nc _ op.1,nc _ op.2,?_,by rw[a.sq,E];exact cY _⟩
  ·show(Z.es.set i f)[i]? = some f
   rw[dH,aH rfl,aH H]
  ·obtain⟨e,_,eb,_,_,es,_⟩:=lv.rc.ex
   rw[es];exact a.sm
 ·show X.S.free-(1:Nat)<=Z.S.free
  have:=a.free;rw[fY]at this;exact this
end
end
def Sq(X:Co):Prop:=∀(b f:Nat) (x a:Me),X.es[b]? = some x->X.es[f]? = some a->x.state=1->a.state=1->x.seq=a.seq->b=f
theorem Sq.es(s:Sq X)(h:Y.es=X.es):Sq Y:=by unfold Sq;rw[h];exact s
theorem Sq.set(s:Sq X)(hs:∀x∈X.es,x.seq<X.nx){y:Me}(h:Y.es=X.es.set j y)(i:y.state=1->X.nx<=y.seq):Sq Y:=by
 intro b o x k f a m g e;rw[h,dH]at f a;split at f
 ·rename_i e1
  split at a
  ·rename_i e2;rw[<-e1,<-e2]
  ·split at f
   ·cases f
    have:=hs k (bU a);have:=i m;omega
   ·cases f
 ·split at a
  ·split at a
   ·cases a
    have:=hs x (bU f);have:=i g;omega
   ·cases a
  ·exact s b o x k f a m g e
theorem Jv.Bpk(C:Cc X L mt){bs:List Nat}(l:Jv X mt x bs){s:Int}(a:e.Wf)(f:EOk e X.ep s)(r:(X.S.dr.dv.zs x.Ah.toNat).l[x.off.toNat]? = some (Akc e x.Ah x.Ay x.off X.ep s)\/(X.S.dr.dv.zs x.Ay.toNat).l[x.off.toNat]? = some (Akc e x.Ay x.Ah x.off X.ep s)):s=x.seq:=by
 obtain⟨k,h2,hd,v,_⟩:=At9 l.ok;obtain⟨d1,o0,o1⟩:=Yt k;obtain⟨d2,_,_⟩:=Yt h2;obtain⟨z0,m,o,z1⟩:=Sn C.c d1;obtain⟨g,p,q,m1⟩:=Sn C.c d2;have sm:=C.c.sm;have s1:=sm.s1;have st1:=(C.s2 _ m).1;have u:=(C.s2 _ p).1;have i:=C.copy l;have key:∀{P:Prop} [Decidable P],(if P then(true,e.bytes)else(false,Dd)).1=true->P:=fun {P} _ h=>by
  by_cases hp:P
  ·exact hp
  ·rw[aF hp]at h;cases h
 rcases r with r|r
 ·have c1:=Aoy (x:=x) C.c.ev C.c.up a (f.at (z:=x.Ah) (mt:=x.Ay) (off:=x.off) z0 (by omega) g (by omega) o0 (by omega)) rfl o (by omega) o0 r
  rw[i.1]at c1;exact(key (congrArg (fun t:Mi × List Nat × Bool × Int=>t.2.2.1) c1).symm).2.1
 ·have c1:=Aoy (x:=x) C.c.ev C.c.up a (f.at (z:=x.Ay) (mt:=x.Ah) (off:=x.off) g (by omega) z0 (by omega) o0 (by omega)) rfl q (by omega) o0 r
  rw[i.2]at c1;exact(key (congrArg (fun t:Mi × List Nat × Bool × Int=>t.2.2.1) c1).symm).2.1
theorem Ajs {z:Int}:inB z x=true↔x.state=1/\(x.Ah=z\/x.Ay=z):=by
 unfold inB;simp only[aV,dR,aU]
theorem Cc.apart(C:Cc X L mt)(sq:Sq X){m:Nat}{f:Me}(o:X.es[b]? = some x)(i:X.es[m]? = some f){z:Int}(h:inB z x=true)(h':inB z f=true)(y:x.off=f.off):b=m:=by
 obtain⟨p,g⟩:=Ajs.1 h;obtain⟨k,a⟩:=Ajs.1 h';obtain⟨bs,_,l⟩:=C.at o p;obtain⟨D,_,l'⟩:=C.at i k;refine sq b m x f o i p k ?_;obtain⟨e,E,_,_,G,_,q,t⟩:=l.rc.ex;have m1:=l.m1;have m2:=l.m2;have u:=l'.m1;have v:=l'.m2;refine l'.Bpk C E G ?_;rw[<-y];rcases g with g|g<;>rcases a with a|a
 ·have e1:f.Ah=x.Ah:=a.trans g.symm
  have e2:f.Ay=x.Ay:=by rw[<-u,e1,m1]
  left;rw[e1,e2];exact q
 ·have e1:f.Ay=x.Ah:=a.trans g.symm
  have e2:f.Ah=x.Ay:=by rw[<-v,e1,m1]
  right;rw[e1,e2];exact q
 ·have e1:f.Ah=x.Ay:=a.trans g.symm
  have e2:f.Ay=x.Ah:=by rw[<-u,e1,m2]
  left;rw[e1,e2];exact t
 ·have e1:f.Ay=x.Ay:=a.trans g.symm
  have e2:f.Ah=x.Ah:=by rw[<-v,e1,m2]
  right;rw[e1,e2];exact t
theorem Amy {z:Int}{es:List Me}:b∈blN z es es.length↔∃x,es[b]? = some x/\inB z x=true:=by
 unfold blN;rw[dS,dK];constructor
 ·rintro⟨h,a⟩
  rw[aD h]at a⊢;exact⟨_,rfl,a⟩
 ·rintro⟨x,f,a⟩
  refine⟨(aY.1 f).1,?_⟩;rw[f];exact a
theorem A5o(z:Int)(es:List Me)(n:Nat):(blN z es n).Nodup:=List.Pairwise.filter _ List.nodup_range
theorem Bks(z:Int)(es:List Me):((blN z es es.length).length:Int)=Jt es z:=by
 have key:∀(l:List Me) (k:Nat),(∀i,i<l.length->es[k+i]? = l[i]?)->(((List.range' k l.length).filter fun i=>inB z ((es[i]?).getD (Me.nil 0))).length:Int)=Jt l z:=fun l=>by
  induction l with
  | nil=>intro k _;rfl
  | cons x l f=>
   intro k h;have h0:=h 0 (by simp);rw[dO,bH]at h0;have a:=f (k+1) fun i a=>by
    have:=h (i+1) (by rw[bF];omega);rw[bY]at this;rw[<-this];congr 1;omega
   rw[bF,fM,eJ,h0,O6,<-a];simp only[Option.getD_some];unfold Ut;split
   ·rename_i hb
    rw[aH (Ajs.1 hb),bF];omega
   ·rename_i hb
    rw[aF fun y=>hb (Ajs.2 y)];omega
 have:=key es 0 fun i _=>by rw[bK]
 unfold blN;rw[List.range_eq_range'];exact this
theorem A1g {z:Int}:∀{es:List Me},(∀x∈es,x.state=1->¬x.Ah=z/\¬x.Ay=z)->Jt es z=0
 | [],_=>rfl
 | x::es,h=>by
  rw[O6,A1g fun y a=>h y (aR _ a)];unfold Ut;rw[aF]
  ·rfl
  ·rintro⟨f,h2⟩
   have:=h x (aW ..) f;exact h2.elim this.1 this.2
theorem Cc.Bpq(C:Cc X L mt)(sq:Sq X)(z:Int):((blN z X.es X.es.length).length:Int)<=X.S.g.S:=by
 have s:=C.c.sm;have:=s.s0
 let of:Nat->Int:=fun b=>((X.es[b]?).getD (Me.nil 0)).off
 have nd:((blN z X.es X.es.length).map of).Nodup:=by
  rw[List.nodup_iff_pairwise_ne,List.pairwise_map];refine List.Pairwise.imp_of_mem ?_ (A5o z X.es X.es.length);intro a b u hb k e;obtain⟨x,f,m⟩:=Amy.1 u;obtain⟨v,i,o⟩:=Amy.1 hb;refine k (C.apart sq f i m o ?_);simp only[of,f,i,Option.getD_some]at e;exact e
 have t:=Axv X.S.g.S.toNat _ nd fun w hw=>by
  obtain⟨b,hb,rfl⟩:=cA.1 hw;obtain⟨x,f,m⟩:=Amy.1 hb;obtain⟨bs,_,l⟩:=C.at f (Ajs.1 m).1;obtain⟨t,_⟩:=At9 l.ok;obtain⟨_,o0,o1⟩:=Yt t;simp only[of,f,Option.getD_some];omega
 have h2:=A8b (p:=fun w=>decide ((w:Int)∈(blN z X.es X.es.length).map of)) (q:=fun _=>true) X.S.g.S.toNat fun _ _ _=>rfl
 rw[A36 _ fun _ _=>rfl]at h2;rw[bZ]at t;omega
end Go.Ev
