import Derived.Test.YtadnemjjlacolaaGreatNa
import Derived.Test.YtadnemjjlacolaaGreatCd
import Derived.Test.YtadnemjjlacolaaGreatCc
set_option linter.all false
namespace Go.Ev
open Go.Proofs
set_option maxRecDepth 100000
variable {K b d j n:Nat}{X Y:Co}{L:List (List Nat)}{mt:Int->Int}{ps ps':Nat->List Int}{e:En}{h:Ab}{x:Me}{disp:Nat->Option FT}{B:Cb}{F:Nat->Prop}
section
theorem A5y(n:Nat):∀l:List Int,l.Nodup->(∀z∈l,0<=z/\z<n)->l.length<=cn (fun z=>decide ((z:Int)∈l)) n
 | [],_,_=>cQ _
 | a::l,nd,g=>by
  obtain⟨i,k⟩:=cB.1 nd;have p:=A5y n l k fun z o=>g z (aT _ o)
  have q:=g a (aX ..);have key:∀m:Nat,cn (fun z=>decide ((z:Int)∈l)) m+(if a<m then 1 else 0)<=cn (fun z=>decide ((z:Int)∈a::l)) m:=fun m=>by
   induction m with
   | zero=>unfold cn;rw[aF (by omega)];exact aE _
   | succ m f=>
    unfold cn;by_cases h:(m:Int)=a
    ·rw[aF (show ¬decide ((m:Int)∈l)=true by rw[h];simpa using i),aG (show decide ((m:Int)∈a::l)=true by rw[h];simp),aG (by omega)]
     rw[aF (by omega)]at f;omega
    ·have e:(decide ((m:Int)∈a::l)=true)↔(decide ((m:Int)∈l)=true):=by simp[h]
     by_cases h2:decide ((m:Int)∈l)=true
     ·rw[aG h2,aG (e.2 h2)]
      split at f<;>split<;>omega
     ·rw[aF h2,aF fun y=>h2 (e.1 y)]
      split at f<;>split<;>omega
  have:=key n;rw[aG (by omega)]at this;rw[bH];omega
theorem A68 {g:Gm}(s:Sm g){l:List Int}(nd:l.Nodup)(m:∀z∈l,Bu g z=d):l.length<=g.Z.toNat:=by
 have:=s.z0;have bd:=s.Ag0
 let f:List Int:=(List.range g.Z.toNat).map fun(k:Nat)=>(d:Int)*g.Z+k
 have o:=A5y (g.D*g.Z).toNat l nd fun z i=>by
  rcases Ko s z with y|⟨_,_,_,a,b⟩
  ·have:=m z i;omega
  ·exact⟨a,by omega⟩
 have h2:cn (fun z=>decide ((z:Int)∈l)) (g.D*g.Z).toNat<=cn (fun z=>decide ((z:Int)∈f)) (g.D*g.Z).toNat:=Bdn _ fun z _ i=>by
  simp only[aQ]at i⊢;have hd:=m _ i;rcases Ko s z with y|⟨_,_,e,a,b⟩
  ·omega
  ·refine bc.2 ⟨((z:Int)%g.Z).toNat,dG.2 ?_,?_⟩
   ·have:=Int.emod_lt_of_pos (z:Int) (show 0<g.Z by omega)
    have:=Int.emod_nonneg (z:Int) (show g.Z≠0 by omega);omega
   ·have:=Int.emod_nonneg (z:Int) (show g.Z≠0 by omega)
    have:=Int.mul_ediv_add_emod (z:Int) g.Z;rw[<-hd,e,Int.mul_comm];omega
 have p:=Ajd (g.D*g.Z).toNat f;have h4:f.length=g.Z.toNat:=by simp[f]
 omega
theorem A7h {z:Int}:∀{es:List Me},La es z=0->∀x∈es,x.state=1->¬x.Aj=z/\¬x.Ba=z
 | [],_,x,f,_=>by cases f
 | y::es,h,x,f,g=>by
  rw[Tp]at h;have a:=Baq z y;have b:=(Akx z es).1;rcases bU.1 f with rfl|f
  ·have:Aas z x=0:=by omega
   unfold Aas at this;split at this
   ·omega
   ·rename_i i
    exact⟨fun e=>i ⟨g,.inl e⟩,fun e=>i ⟨g,.inr e⟩⟩
  ·exact A7h (es:=es) (by omega) x f g
theorem Ac1 {z:Int}:X.dead z=true↔X.closed z=true/\Ug X.S.g X.es z=0:=by
 unfold Co.dead;simp only[aR,aQ]
theorem Cc.Bkk(C:Cc X L mt){z:Int}(h:X.dead z=true):∀x∈X.es,x.state=1->¬x.Aj=z/\¬x.Ba=z:=by
 obtain⟨f,h2⟩:=Ac1.1 h;have hd:=(Ff.1 f).1;refine A7h ?_;unfold Ug at h2;rcases Ko C.c.sm z with y|⟨_,_,_,a,b⟩
 ·omega
 ·rw[aG ⟨a,b⟩]at h2;exact h2
theorem Cc.tz(C:Cc X L mt){z:Int}(hd:0<=Bu X.S.g z)(i:¬z=X.S.a)(h2:¬z=X.S.b):Tz X.S z:=by
 obtain⟨a,f,_⟩:=Yu C.c hd;refine⟨C.c,hd,?_⟩;obtain⟨s1,s2⟩:=C.s2 _ f;rcases cZ 0 (X.S.dr.dv.zs z.toNat).st with y|y
 ·right
  rcases cZ 1 (X.S.dr.dv.zs z.toNat).st with w|w
  ·omega
  ·rcases C.c.few _ f (by omega)with v|v<;>omega
 ·exact .inl ⟨by omega,s2 (by omega)⟩
theorem Cc.Bm4(C:Cc X L mt){z:Int}(h:X.closed z=true):Tz X.S z:=by
 obtain⟨a,b,c,_⟩:=Ff.1 h;exact C.tz a b c
theorem Cc.Bvw(C:Cc X L mt){z:Int}(h:X.closed z=true):Idle X.S fun i=>i=z.toNat:=fun w hw e=>by
 obtain⟨f,g,k,_,_,a⟩:=Ff.1 h;have:w=z:=Z6 C.c.sm hw f e;subst this;refine⟨g,k,fun d hd hm=>?_⟩;rw[J9.2 ⟨d,hd,hm⟩]at a;cases a
theorem Cc.Bwf(C:Cc X L mt){z:Int}(v:X.closed z=true)(E:∀x∈X.es,x.state=1->¬x.Aj=z/\¬x.Ba=z)(he:(X.S.dr.dv.zs z.toNat).l = []/\(X.S.dr.dv.zs z.toNat).st=0):
 (Abk X.S.g X.S.g.D.toNat X.S.ps z).1=0/\X.S.Ala z = { X.S with ps:=upd X.S.ps (Bu X.S.g z).toNat (X.S.ps (Bu X.S.g z).toNat++[z]) }/\Cc { X with S:=X.S.Ala z } L mt/\∀w,({ X with S:=X.S.Ala z }:Co).closed w=(X.closed w&&!decide (w=z)):=by
 obtain⟨a1,G,H,a4,a5,k⟩:=Ff.1 v;have s:=C.c.sm;obtain⟨b1,b2⟩:Bu X.S.g z<X.S.g.D/\0<=X.S.g.D:=by
  rcases Ko s z with y|⟨_,y,_⟩
  ·omega
  ·have:=s.d0;exact⟨y,by omega⟩
 have hd:(Bu X.S.g z).toNat<X.S.g.D.toNat:=by omega
 have nd:=C.c.nd _ hd;have nm:∀d,d<X.S.g.D.toNat->z ∉ X.S.ps d:=fun d hd hm=>by rw[J9.2 ⟨d,hd,hm⟩]at k;cases k
 have i:(X.S.ps (Bu X.S.g z).toNat++[z]).Nodup:=by
  rw[List.nodup_append];refine⟨nd,by simp,fun a J b hb y=>?_⟩;rw[aO.1 hb]at y;subst y;exact nm _ hd J
 have len:(X.S.ps (Bu X.S.g z).toNat).length<X.S.g.Z.toNat:=by
  have:=A68 s (d:=(Bu X.S.g z).toNat) i fun w hw=>by
   rcases bO.1 hw with y|y
   ·exact(C.c.wf.ps _ hd w y).1
   ·rw[aO.1 y];omega
  rw[aH]at this;exact this
 have p:Abk X.S.g X.S.g.D.toNat X.S.ps z=(0,upd X.S.ps (Bu X.S.g z).toNat (X.S.ps (Bu X.S.g z).toNat++[z])):=by
  unfold Abk;rw[aF (by omega),k,aF (by decide),aG len]
 have hS:X.S.Ala z = { X.S with ps:=upd X.S.ps (Bu X.S.g z).toNat (X.S.ps (Bu X.S.g z).toNat++[z]) }:=by
  unfold Mi.Ala;rw[p]
 have mem:∀d w,w∈upd X.S.ps (Bu X.S.g z).toNat (X.S.ps (Bu X.S.g z).toNat++[z]) d->w∈X.S.ps d\/(w=z/\d=(Bu X.S.g z).toNat):=fun d w hw=>by
  unfold upd at hw;split at hw
  ·rename_i e
   subst e;rcases bO.1 hw with y|y
   ·exact .inl y
   ·exact .inr ⟨aO.1 y,rfl⟩
  ·exact .inl hw
 have f:∀w,({ X with S:=X.S.Ala z }:Co).closed w=(X.closed w&&!decide (w=z)):=fun w=>by
  have hb:hasB (upd X.S.ps (Bu X.S.g z).toNat (X.S.ps (Bu X.S.g z).toNat++[z])) X.S.g.D.toNat w=(hasB X.S.ps X.S.g.D.toNat w||decide (w=z)):=by
   rw[eK,dT,aQ,J9,J9];constructor
   ·rintro⟨d,hd,hm⟩
    rcases mem d w hm with y|y
    ·exact .inl ⟨d,hd,y⟩
    ·exact .inr y.1
   ·rintro(⟨d,m,hm⟩|rfl)
    ·refine⟨d,m,?_⟩
     unfold upd;split
     ·rename_i e;subst e;exact bO.2 (.inl hm)
     ·exact hm
    ·refine⟨_,hd,?_⟩
     unfold upd;rw[aG rfl];simp
  rw[hS];unfold Co.closed;show(_&&(_&&(_&&(_&&(_&&!hasB (upd _ _ _) _ w)))))=_;rw[hb];cases decide (w=z)<;>simp[Mi.F0]
 refine⟨by rw[p],hS,?_,f⟩;have M:Calm (X.S.Ala z):=by
  rw[hS];refine⟨{ toWp:=⟨C.c.wf.sm,fun d hd w hw=>?_⟩,op:=C.c.wf.op },C.c.rt,C.c.ev,C.c.up,C.c.n,C.c.size,C.c.op,C.c.bad,fun d hd=>?_,fun d hd w hw=>?_,?_,C.c.few⟩
  ·rcases mem d w hw with y|⟨rfl,y⟩
   ·exact C.c.wf.ps d hd w y
   ·exact⟨by show Bu X.S.g w=d;omega,C.c.bad _⟩
  ·show(upd X.S.ps _ _ d).Nodup
   unfold upd;split
   ·exact i
   ·exact C.c.nd d hd
  ·rcases mem d w hw with y|⟨rfl,y⟩
   ·exact C.c.fr d hd w y
   ·exact he
  ·rcases C.c.opn with y|⟨O,P,Q,T,U,t,V⟩
   ·exact .inl y
   ·refine .inr ⟨O,P,Q,T,U,fun d hd=>⟨fun hm=>?_,fun hm=>?_⟩,V⟩
    ·rcases mem d _ hm with w|w
     ·exact(t d hd).1 w
     ·exact G w.1.symm
    ·rcases mem d _ hm with w|w
     ·exact(t d hd).2 w
     ·exact H w.1.symm
 refine⟨M,C.un,by rw[hS];exact C.ar,fun w hw=>?_,by rw[hS];exact C.s2,by rw[hS];exact C.opm,C.len,by rw[hS];exact C.lb,fun b x bs u o=>?_,C.sq,C.nm⟩
 ·have hw:arB X w:=hw
  obtain⟨W,r2,r3,r4⟩:=C.arz w hw;rw[hS];refine⟨W,r2,fun d hd hm=>?_,r4⟩;rcases mem d w hm with y|y
  ·exact r3 d hd y
  ·rw[y.1]at hw
   rw[(C.Ada z).2 hw]at a5;cases a5
 ·rcases C.A0x b x bs u o with y|y
  ·exact .inl y
  ·obtain⟨n1,n2⟩:=E x (bY u) y.st
   refine .inr ⟨y.st,by rw[hS];exact y.ok,?_,y.m1,y.m2,?_⟩
   ·obtain⟨e,q⟩:=y.rc.ex
    rw[hS];exact⟨e,q⟩
   ·rw[f,f]
    rcases y.wh with w|w
    ·left;rw[hS];exact w
    ·right
     rw[w.1,w.2,aP n1,aP n2];exact⟨rfl,rfl⟩
end
section
structure Kc(X Y:Co):Prop where
 es:Y.es=X.es
 nm:Y.gen=X.gen/\Y.ep=X.ep/\Y.nx=X.nx/\Y.st=X.st
 g:Y.S.g=X.S.g
 o:Y.S.a=X.S.a/\Y.S.b=X.S.b/\Y.S.u=X.S.u
theorem Kc.refl(X:Co):Kc X X:=⟨rfl,⟨rfl,rfl,rfl,rfl⟩,rfl,rfl,rfl,rfl⟩
theorem Kc.trans {Z:Co}(a:Kc X Y)(b:Kc Y Z):Kc X Z:=⟨b.es.trans a.es,⟨b.nm.1.trans a.nm.1,b.nm.2.1.trans a.nm.2.1,b.nm.2.2.1.trans a.nm.2.2.1,b.nm.2.2.2.trans a.nm.2.2.2⟩,b.g.trans a.g,b.o.1.trans a.o.1,b.o.2.1.trans a.o.2.1,b.o.2.2.trans a.o.2.2⟩
structure Rcy(X Y:Co)(i:Int):Prop where
 k:Kc X Y
 cl:∀z,Y.closed z=(X.closed z&&!(X.dead z&&decide (z<i)))
 fr:∀z,X.dead z=true->z<i->z∈Y.S.ps (Bu X.S.g z).toNat
 pre:∀d,∃ex,Y.S.ps d=X.S.ps d++ex
theorem Kc.dead(k:Kc X Y)(z:Int):Y.dead z=(Y.closed z&&decide (Ug X.S.g X.es z=0)):=by unfold Co.dead;rw[k.es,k.g]
section
variable (A:Bj disp)(hK:10000<K)
include A hK
theorem Bmk(C:Cz h B X F)(c:Cc X L mt){z:Int}(J:X.dead z=true)(hd:19<=d):Ok (Ae TT disp K d false 101 [.ptr B.c 0,I z] h) fun v h'=>v=I 0/\∃Y,Ej h h' B X F Y/\Cc Y L mt/\Kc X Y/\(∀w,Y.closed w=(X.closed w&&!decide (w=z)))/\Y.S.ps=upd X.S.ps (Bu X.S.g z).toNat (X.S.ps (Bu X.S.g z).toNat++[z]):=by
 obtain⟨e,rfl⟩:∃k,d=k+1:=⟨d-1,by omega⟩;have i:=(Ac1.1 J).1;have t:=c.Bm4 i;have Q:=Af4 c.c.sm t.d;have O:=c.Bkk J;rw[Ar9 A (by omega)];simp only[Amt,Aa];rw[C.ldM];obtain⟨D,V,dr⟩:=Alv A hK C.M C.hb;rw[dr.Eb];refine Ok.An (dr.reset (d:=e) (by omega) z (by rw[(Aut X.S.dr z).size];exact C.wf.sz)) ?_;rintro v h2 ⟨rfl,M2,T,m⟩;have c2:=C.Kk M2 T m (Bh7 (Bn3 _ z));obtain⟨U,f⟩:=Bcx t;rw[U];have q:=Btd t f (.inr rfl);have lv:∀x∈X.es,x.state=1->¬x.Aj.toNat=z.toNat/\¬x.Ba.toNat=z.toNat:=fun x P o=>by
  obtain⟨W,Z⟩:=O x P o;obtain⟨b,hb⟩:=cK.1 P;have u:b<L.length:=by rw[c.len];exact(aW.1 hb).1
  rcases c.A0x b x _ hb (aC u)with w|w
  ·rw[w.1]at o;cases o
  ·obtain⟨z1,z2⟩:=w.Agb
   exact⟨fun y=>W (Z6 c.c.sm z1 t.d y),fun y=>Z (Z6 c.c.sm z2 t.d y)⟩
 have E:=c.dq q (c.Bvw i) lv;have e0:(f.here.1:_)=f.here.1:=rfl;have he:((X.S.dr.reset z).1.dv.zs z.toNat).l = []/\((X.S.dr.reset z).1.dv.zs z.toNat).st=0:=by
  obtain⟨a,b⟩:=f.here;have:=t.pos;rw[aF (by omega),aG rfl]at b;exact⟨dB a,b⟩
 simp only[I,Ac,aB,Aa];rw[c2.C.ldM];have G:({ X with S:={ X.S with dr:=(X.S.dr.reset z).1 } }:Co).closed z=true:=by rw[N1 q];exact i
 obtain⟨g1,g2,g3,g4⟩:=E.Bwf G O he;obtain⟨p,e1,e2⟩:=Bdc c2.C.M c2.C.hb A hK;rw[e1,As];refine Ok.An (e2 (d:=e) (by omega) Q fun _=>c.c.bad _) ?_;rintro v h3 ⟨rfl,M3,k3,H⟩;rw[show(Abk ({ X with S:={ X.S with dr:=(X.S.dr.reset z).1 } }:Co).S.g ({ X with S:={ X.S with dr:=(X.S.dr.reset z).1 } }:Co).S.g.D.toNat ({ X with S:={ X.S with dr:=(X.S.dr.reset z).1 } }:Co).S.ps z).1=0 from g1];have c3:=c2.trans (c2.C.Kk M3 k3 H (Brs _ _));refine .ret ⟨rfl,_,c3,g3,⟨rfl,⟨rfl,rfl,rfl,rfl⟩,rfl,rfl,rfl,rfl⟩,fun w=>?_,?_⟩
 ·have:=g4 w
  rw[N1 q]at this;exact this
 ·show(({ X.S with dr:=(X.S.dr.reset z).1 }:Mi).Ala z).ps=_
  rw[g2]
theorem A9a(Q:X.S.g.D*X.S.g.Z=n)(hd:19<=d)(y:Sm X.S.g):∀(f i:Nat) (q:Ab) (Y:Co),n-i<f->i<=n->Ej h q B X F Y->Cc Y L mt->Rcy X Y i ->
 Ok (Gt (Ae TT disp K d false) (Ae TT disp K d true) K f (.ptr B.c 0) (I n) (I i) q) fun v h'=>v=I 0/\∃Z,Ej h h' B X F Z/\Cc Z L mt/\Rcy X Z n:=by
 intro f;induction f with
 | zero=>intro i q Y E;omega
 | succ f G=>
  intro i q Y E T c1 u r;have bd:=y.Ag0;rw[Gt];simp only[I,Ac];by_cases H:i<n
  ·have:decide ((i:Int)<(n:Int))=true:=by simp;omega
   simp only[this,Aa,Abg];refine Ok.An (Bjl A hK c1.C (d:=d) (by omega) (z:=i) ⟨by omega,by omega⟩) ?_;rintro v h2 ⟨rfl,J⟩;have c2:=c1.trans (c1.C.rd J);have nx:∀m Z,Ej h m B X F Z->Cc Z L mt->Rcy X Z (i+1:Nat)->Ok (L6 (Ae TT disp K d false) (Ae TT disp K d true) K (Gt (Ae TT disp K d false) (Ae TT disp K d true) K f) (.ptr B.c 0) (.int .i64 (n:Int)) (.int .i64 (i:Int)) m) fun v h'=>v=I 0/\∃Z,Ej h h' B X F Z/\Cc Z L mt/\Rcy X Z n:=fun m Z c3 a M=>by
    simp only[L6,Ac];rw[Cj,show((i:Nat):Int)+1=((i+1:Nat):Int) by omega];exact G (i+1) m Z (by omega) (by omega) c3 a M
   have o:Y.dead i=X.dead i:=by
    rw[r.k.dead,r.cl,aP (show ¬(i:Int)<i by omega)];unfold Co.dead;simp
   rw[o];cases t:X.dead i with
   | false=>
    simp only[Aa];refine nx _ _ c2 u ⟨r.k,fun z=>?_,fun z p O=>?_,r.pre⟩
    ·rw[r.cl]
     by_cases e:z=i
     ·subst e;rw[t];simp
     ·have:decide (z<(i:Int))=decide (z<((i+1:Nat):Int)):=by rw[eD];omega
      rw[this]
    ·by_cases e:z=i
     ·subst e;rw[t]at p;cases p
     ·exact r.fr z p (by omega)
   | true=>
    simp only[Aa,Aa5];refine Ok.An (Bmk A hK c2.C u (z:=i) (by rw[o];exact t) hd) ?_;rintro _ m ⟨rfl,Z,c3,a,P,Lz,ps3⟩;simp only[I,Ac,aD,aA,Aa];refine nx _ _ (c2.trans c3) a ⟨r.k.trans P,fun z=>?_,fun z p O=>?_,fun d=>?_⟩
    ·rw[Lz,r.cl]
     by_cases e:z=i
     ·subst e;rw[t,aM (show((i:Nat):Int)<((i+1:Nat):Int) by omega)];simp
     ·have:decide (z<(i:Int))=decide (z<((i+1:Nat):Int)):=by rw[eD];omega
      rw[this,aP e];simp
    ·rw[ps3,r.k.g]
     by_cases e:z=i
     ·subst e
      unfold upd;rw[aG rfl];simp
     ·have:=r.fr z p (by omega)
      unfold upd;split
      ·rename_i e2;rw[<-e2];exact bO.2 (.inl this)
      ·exact this
    ·obtain⟨ex,he⟩:=r.pre d
     rw[ps3];unfold upd;split
     ·rename_i e2;subst e2;rw[he];exact⟨ex++[(i:Int)],by rw[cW]⟩
     ·exact⟨ex,he⟩
  ·have:i=n:=by omega
   subst this;have:decide ((i:Int)<(i:Int))=false:=by simp
   simp only[this,Aa,Aa9];exact .ret ⟨rfl,Y,c1,u,r⟩
end
theorem Cc.swap(C:Cc X L mt):Cc { X with cur:=swC X.cur X.By 3,By:=swC X.By X.cur 3 } L mt/\∀z,({ X with cur:=swC X.cur X.By 3,By:=swC X.By X.cur 3 }:Co).closed z=X.closed z:=by
 have e:∀(f k:Nat->Int) i,i<3->swC f k 3 i=k i:=fun f k i m=>aG m
 have ar:∀z,arB { X with cur:=swC X.cur X.By 3,By:=swC X.By X.cur 3 } z↔arB X z:=fun z=>by
  constructor
  ·rintro⟨i,m,h⟩
   refine⟨i,m,?_⟩;have h:z=swC X.cur X.By 3 i\/z=swC X.By X.cur 3 i:=h;rw[e _ _ _ m,e _ _ _ m]at h;exact h.symm
  ·rintro⟨i,m,h⟩
   refine⟨i,m,?_⟩;show z=swC X.cur X.By 3 i\/z=swC X.By X.cur 3 i;rw[e _ _ _ m,e _ _ _ m];exact h.symm
 have o:∀z,Go.Ev.Ada (swC X.cur X.By 3) (swC X.By X.cur 3) z=Go.Ev.Ada X.cur X.By z:=fun z=>by
  rw[eK,Azq,Azq];constructor
  ·rintro⟨i,m,h⟩
   rw[e _ _ _ m,e _ _ _ m]at h;exact⟨i,m,h.symm⟩
  ·rintro⟨i,m,h⟩
   refine⟨i,m,?_⟩;rw[e _ _ _ m,e _ _ _ m];exact h.symm
 have cl:∀z,({ X with cur:=swC X.cur X.By 3,By:=swC X.By X.cur 3 }:Co).closed z=X.closed z:=fun z=>by
  unfold Co.closed;simp only[o]
 refine⟨⟨C.c,C.un,fun i m=>?_,fun z p=>C.arz z ((ar z).1 p),C.s2,C.opm,C.len,C.lb,fun b x bs q t=>?_,C.sq,C.nm⟩,cl⟩
 ·obtain⟨a,b,c⟩:=C.ar i m
  show Bu X.S.g (swC X.cur X.By 3 i)=i/\Bu X.S.g (swC X.By X.cur 3 i)=i/\¬swC X.cur X.By 3 i=swC X.By X.cur 3 i;rw[e _ _ _ m,e _ _ _ m];exact⟨b,a,fun y=>c y.symm⟩
 ·rcases C.A0x b x bs q t with y|y
  ·exact .inl y
  ·exact .inr ⟨y.st,y.ok,y.rc,y.m1,y.m2,by rw[cl,cl];exact y.wh⟩
end
section
structure Ckp(X Y:Co):Prop where
 es:Y.es=X.es
 nm:Y.gen=X.gen+1/\Y.ep=X.ep/\Y.nx=X.nx/\Y.st=X.st
 g:Y.S.g=X.S.g
 o:Y.S.a=X.S.a/\Y.S.b=X.S.b/\Y.S.u=X.S.u
 cl:∀z,Y.closed z=(X.closed z&&!X.dead z)
 fr:∀z,X.dead z=true->z∈Y.S.ps (Bu X.S.g z).toNat
 pre:∀d,∃ex,Y.S.ps d=X.S.ps d++ex
theorem Ckp.dead(c:Ckp X Y)(z:Int):Y.dead z=false:=by
 have h:=c.cl z;unfold Co.dead at h⊢;rw[h,c.es,c.g];cases X.closed z<;>cases decide (Ug X.S.g X.es z=0)<;>rfl
theorem Bu9(C:Cc X L mt)(g:X.gen<281474976710655)(h2:X.nx<=281474976710655):snR (X.gen+1) X.ep X.nx X.es=true:=by
 obtain⟨a,b,c⟩:=C.nm;have l:A1f X.nx X.es=false:=by
  unfold A1f;rw[List.any_eq_false];intro x f;have:=C.sq x f;simp only[aQ];omega
 unfold snR;rw[l,b];simp only[aR,aQ,cu];exact⟨⟨by omega,by omega⟩,⟨by omega,by omega⟩,⟨by omega,by omega⟩,trivial⟩
section
variable (A:Bj disp)(hK:10000<K)
include A hK
theorem Apu(C:Cz h B X F)(c:Cc X L mt)(hg:X.gen<281474976710655)(hx:X.nx<=281474976710655)(hd:21<=d):Ok (Ae TT disp K d false 61 [.ptr B.c 0] h) fun v h'=>v=I 0/\∃Y,Ej h h' B X F Y/\Cc Y L mt/\Ckp X Y:=by
 obtain⟨e,rfl⟩:∃k,d=k+1:=⟨d-1,by omega⟩;rw[An7 A (by omega)];simp only[Afi,Aa];rw[C.ldM];obtain⟨D,V,dr⟩:=Alv A hK C.M C.hb;rw[dr.Eb];have hf:=Aqi c.c.ev c.c.up;refine Ok.An (dr.flush (d:=e) (by omega)) ?_;rintro v h1 ⟨rfl,M1,kf,aw⟩;have c1:=C.Kk M1 kf aw (Bh7 (A0c _));have q1:Dq X.S { X.S with dr:=X.S.dr.flush.1 } fun _=>False:=by rw[hf];exact Dq.Wn c.c
 have E:=c.dq q1 (fun _ _ y=>y.elim) fun _ _ _=>⟨id,id⟩
 rw[hf];rw[hf]at c1 E q1;have U:Kc X { X with S:={ X.S with dr:=X.S.Wn.dr } }:=⟨rfl,⟨rfl,rfl,rfl,rfl⟩,rfl,rfl,rfl,rfl⟩;have l1:∀z,({ X with S:={ X.S with dr:=X.S.Wn.dr } }:Co).closed z=X.closed z:=N1 q1;have p1:({ X with S:={ X.S with dr:=X.S.Wn.dr } }:Co).S.ps=X.S.ps:=rfl;have aa:({ X with S:={ X.S with dr:=X.S.Wn.dr } }:Co).gen=X.gen:=rfl;simp only at c1 E;generalize ({ X with S:={ X.S with dr:=X.S.Wn.dr } }:Co)=q at c1 E U l1 p1 aa;simp only[Ac,aD,aA,Aa,Abm];rw[c1.C.ldG];simp only[I,Ac];rw[Cj (by have:=E.nm.1;omega) (by omega)];have lc:=c1.hb _ _ c1.C.core;refine Ok.st1 c1.C.core rfl rfl (by show 3<7;decide) ?_;have c2:=c1.trans (c1.C.Bu3 (q.gen+1) q.ep q.nx q.st);have e2:(q.cells B).set 3 (.int .i64 (q.gen+1))=({ q with gen:=q.gen+1,ep:=q.ep,nx:=q.nx,st:=q.st }:Co).cells B:=rfl;rw[e2];have t:Cc { q with gen:=q.gen+1,ep:=q.ep,nx:=q.nx,st:=q.st } L mt:=⟨E.c,E.un,E.ar,E.arz,E.s2,E.opm,E.len,E.lb,fun b x bs hx hl=>(E.A0x b x bs hx hl).imp id fun y=>⟨y.st,y.ok,y.rc,y.m1,y.m2,y.wh⟩,E.sq,⟨by show 0<=q.gen+1;have:=E.nm.1;omega,E.nm.2⟩⟩;have hR:snR (q.gen+1) q.ep q.nx q.es=true:=Bu9 E (by rw[aa];exact hg) (by rw[U.nm.2.2.1];exact hx);have k2:({ q with gen:=q.gen+1,ep:=q.ep,nx:=q.nx,st:=q.st }:Co).es=X.es/\(q.gen+1=X.gen+1/\q.ep=X.ep/\q.nx=X.nx/\q.st=X.st)/\q.S.g=X.S.g/\(q.S.a=X.S.a/\q.S.b=X.S.b/\q.S.u=X.S.u)/\(∀z,({ q with gen:=q.gen+1,ep:=q.ep,nx:=q.nx,st:=q.st }:Co).closed z=X.closed z)/\q.S.ps=X.S.ps:=⟨U.es,⟨by rw[aa],U.nm.2.1,U.nm.2.2.1,U.nm.2.2.2⟩,U.g,U.o,l1,p1⟩;have eY:∀f:Co,f = { q with gen:=q.gen+1,ep:=q.ep,nx:=q.nx,st:=q.st }->snR f.gen f.ep f.nx f.es=true/\f.es=X.es/\(f.gen=X.gen+1/\f.ep=X.ep/\f.nx=X.nx/\f.st=X.st)/\f.S.g=X.S.g/\(f.S.a=X.S.a/\f.S.b=X.S.b/\f.S.u=X.S.u)/\(∀z,f.closed z=X.closed z)/\f.S.ps=X.S.ps:=fun f h=>by subst h;exact⟨hR,k2⟩
 have ad:=eY _ rfl;generalize ({ q with gen:=q.gen+1,ep:=q.ep,nx:=q.nx,st:=q.st }:Co)=f at c2 t ad⊢;generalize h1.put B.c (.cells (f.cells B) 109)=h2 at c2⊢;obtain⟨ay,az,a0,g2,o2,l2,p2⟩:=ad;have O:=c2.hb _ _ c2.C.core;rw[Ku O,c2.C.Ku];simp only[Aa,Aw];rw[Ku O,c2.C.ldG];simp only[Aa,Aw];rw[Ku O,c2.C.ldE];simp only[Aa,Aw];rw[Ku O,c2.C.ldN];simp only[Aa,Aw];rw[Ku O,c2.C.ldB];simp only[Aa,Aw];rw[Ay (l:=[I f.gen,I f.ep,I f.nx,.ptr B.b 0]) rfl];obtain⟨n1,n2,n3,n4,n5,n6,n7,n8,n9,cv⟩:=c2.C.ne;have C2:=c2.C.lift;have hT:∀i,i<3->Tz f.S (f.By i)/\f.S.F0 (f.By i)=false/\Bu f.S.g (f.By i)=i:=fun i G=>by
  obtain⟨_,b,_⟩:=t.ar i G;obtain⟨a1,a2,_⟩:=t.arz _ ⟨i,G,.inr rfl⟩;exact⟨t.tz (by omega) a1 a2,t.F0 _,b⟩
 have ag:Idle f.S (A27 f.By 3):=fun z H ⟨i,G,ei⟩=>by
  obtain⟨_,b,_⟩:=t.ar i G;have:z=f.By i:=Z6 t.c.sm H (by omega) ei;obtain⟨a1,a2,a3,_⟩:=t.arz z ⟨i,G,.inr this⟩;exact⟨a1,a2,a3⟩
 have wr:=Bri (K:=K) A hK (ar:=B.ar) (m:=B.m) (b:=B.b) (ml:=B.ml) (ll:=B.ll) (F:=B.fr F) (es:=f.es) (.inr (.inr (.inl rfl))) ⟨.inr (.inr (.inr (.inl rfl))),.inr (.inr (.inr (.inr (.inl rfl)))),.inr (.inr (.inr (.inr (.inr rfl)))),n5.symm,n6.symm,n7.symm⟩ (x:=f.gen) (y:=f.ep) (w:=f.nx) (d:=e) (by omega) ay t.c hT ag C2.M C2.hb C2.ar C2.map;refine Ok.bC (S:=fun j=>¬B.fr F j\/j=B.ar) wr (fun _ _ p=>p.2.2.2.1) ?_;rintro _ cy h3 s' ⟨rfl,⟨T,M3,P⟩,A3,_,ba⟩ sm ch cT;have bf:Bj2 T (swC f.cur f.By 3) (swC f.By f.cur 3):=by
  refine⟨fun i G=>.inr ?_,fun i G=>.inr ?_⟩
  ·rw[show swC f.cur f.By 3 i=f.By i from aG G,P.g];exact(t.ar i G).2.1
  ·rw[show swC f.By f.cur 3 i=f.cur i from aG G,P.g];exact(t.ar i G).1
 have c3:=c2.trans (c2.C.Bvn (M3.same sm) (by rw[sm.get];exact A3) ch (sm.hb ba) (P.mk' t.c) bf);have lv:∀x∈f.es,x.state=1->¬A27 f.By 3 x.Aj.toNat/\¬A27 f.By 3 x.Ba.toNat:=fun x hx h1=>by
  obtain⟨b,hb⟩:=cK.1 hx;have bj:b<L.length:=by rw[t.len];exact(aW.1 hb).1
  rcases t.A0x b x _ hb (aC bj)with w|w
  ·rw[w.1]at h1;cases h1
  ·obtain⟨z1,z2⟩:=w.Agb
   have no:∀z,0<=Bu f.S.g z->(z=f.S.a\/z=f.S.b\/f.closed z=true)->¬A27 f.By 3 z.toNat:=fun z H hw ⟨i,G,ei⟩=>by
    obtain⟨_,bb,_⟩:=t.ar i G;have e':z=f.By i:=Z6 t.c.sm H (by omega) ei;obtain⟨a1,a2,_⟩:=t.arz z ⟨i,G,.inr e'⟩;rcases hw with w|w|w
    ·exact a1 w
    ·exact a2 w
    ·have:=(Ff.1 w).2.2.2.2.1
     rw[(t.Ada z).2 ⟨i,G,.inr e'⟩]at this;cases this
   rcases w.wh with⟨w1,w2⟩|⟨w1,w2⟩
   ·exact⟨no _ z1 (.inl w1),no _ z2 (.inr (.inl w2))⟩
   ·exact⟨no _ z1 (.inr (.inr w1)),no _ z2 (.inr (.inr w2))⟩
 obtain⟨bk,l3⟩:=(t.dq P ag lv).swap;have bn:∀z,({ f with S:=T,cur:=swC f.cur f.By 3,By:=swC f.By f.cur 3 }:Co).closed z=X.closed z:=fun z=>(l3 z).trans ((N1 P z).trans (l2 z))
 have g3:T.g=X.S.g:=P.g.trans g2;have o3:T.a=X.S.a/\T.b=X.S.b/\T.u=X.S.u:=⟨P.o.1.trans o2.1,P.o.2.1.trans o2.2.1,P.o.2.2.trans o2.2.2⟩;have p3:T.ps=X.S.ps:=P.ps.trans p2;simp only[Aa,I,Ac,aD,aA,Abh];have W:Cc ({ f with S:=T,cur:=swC f.cur f.By 3,By:=swC f.By f.cur 3 }:Co) L mt:=bk;have eZ:∀Z:Co,Z = { f with S:=T,cur:=swC f.cur f.By 3,By:=swC f.By f.cur 3 }->Z.es=X.es/\(Z.gen=X.gen+1/\Z.ep=X.ep/\Z.nx=X.nx/\Z.st=X.st)/\Z.S.g=X.S.g/\(Z.S.a=X.S.a/\Z.S.b=X.S.b/\Z.S.u=X.S.u)/\(∀z,Z.closed z=X.closed z)/\Z.S.ps=X.S.ps:=fun Z h=>by subst h;exact⟨az,a0,g3,o3,bn,p3⟩
 have ah:=eZ _ rfl;generalize ({ f with S:=T,cur:=swC f.cur f.By 3,By:=swC f.By f.cur 3 }:Co)=Z at c3 W ah;obtain⟨ai,Q,gZ,oZ,lZ,pZ⟩:=ah;rw[c3.C.ldM];refine Aoq A c3.C fun h4 x4=>?_
 have c4:=c3.C.toE x4;have bd:=C.sm.Ag0;obtain⟨n,hn⟩:=aY (show 0<=X.S.g.D*X.S.g.Z by omega);rw[gZ,hn];have de:=c3.trans c4;refine(A9a (X:=Z) A hK (by rw[gZ];exact hn) (d:=e) (by omega) c3.C.sm K 0 h4 Z (by omega) (by omega) c4 W ⟨Kc.refl Z,fun z=>?_,fun z H hl=>?_,fun d=>⟨[],by simp⟩⟩).mono ?_
 ·cases H:Z.dead z with
  | false=>simp
  | true=>
   have:=(Ff.1 (Ac1.1 H).1).1;have:=Lc c3.C.sm this;rw[aP (show ¬z<((0:Nat):Int) by omega)];simp
 ·have:=Lc c3.C.sm (Ff.1 (Ac1.1 H).1).1
  omega
 rintro v h5 ⟨rfl,Y,c5,bp,J⟩;have al:∀z,Z.dead z=X.dead z:=fun z=>by unfold Co.dead;rw[lZ,ai,gZ]
 have lt:∀z,X.dead z=true->z<(n:Int):=fun z H=>by
  have:=(Ff.1 (Ac1.1 H).1).1;rcases Ko C.sm z with y|⟨_,_,_,_,y⟩
  ·omega
  ·omega
 refine⟨rfl,Y,c3.trans c5,bp,⟨J.k.es.trans ai,⟨J.k.nm.1.trans Q.1,J.k.nm.2.1.trans Q.2.1,J.k.nm.2.2.1.trans Q.2.2.1,J.k.nm.2.2.2.trans Q.2.2.2⟩,J.k.g.trans gZ,⟨J.k.o.1.trans oZ.1,J.k.o.2.1.trans oZ.2.1,J.k.o.2.2.trans oZ.2.2⟩,fun z=>?_,fun z H=>?_,fun d=>?_⟩⟩
 ·rw[J.cl,al,lZ]
  cases H:X.dead z with
  | false=>simp
  | true=>rw[aM (lt z H)];simp
 ·have:=J.fr z (by rw[al];exact H) (lt z H)
  rw[gZ]at this;exact this
 ·obtain⟨ex,he⟩:=J.pre d
  exact⟨ex,by rw[he,pZ]⟩
end
end
section
theorem A0y{a:Nat}(f:¬a=b)(g:a<n)(hb:b<n)(h:∀e,e<n->(ps e).length<=(ps' e).length):Qq ps n+(ps' a).length+(ps' b).length<=Qq ps' n+(ps a).length+(ps b).length:=by
 have u:=Auu (ps:=ps) (d:=a) (l:=ps' a) n;rw[aG g]at u;have m:=Aw9 (ps:=upd ps a (ps' a)) (ps':=ps') (d:=b) n hb fun e he=>by
  unfold upd;split
  ·rename_i e2;rw[e2];exact aE _
  ·exact h e he
 rw[show upd ps a (ps' a) b=ps b from aF (fun y=>f y.symm)]at m;omega
theorem Bgu{a:Nat}(f:¬a=b)(g:a<n)(hb:b<n)(h:∀e,e<n->(ps e).length<=(ps' e).length)(i:(ps a).length<(ps' a).length)(lb:(ps b).length<(ps' b).length):F7 ps n+1<=F7 ps' n:=by
 obtain⟨p1,p2⟩:=(Aez (ps:=ps) (n:=n) (by omega) _).1 (cb (F7 ps n));refine(Aez (by omega) _).2 ⟨?_,fun d hd=>?_⟩
 ·have:=A0y f g hb h;omega
 ·have k:=p2 d hd
  by_cases e1:d=a
  ·subst e1;have:=A0y f g hb h;omega
  ·have:=A0y (a:=d) (b:=a) e1 hd g h;omega
theorem Bmm {S T:Mi}(g:T.g=S.g)(o:T.a=S.a/\T.b=S.b/\T.u=S.u):T.room=S.room:=by unfold Mi.room;rw[g,o.1,o.2.2]
theorem Ckp.len(k:Ckp X Y):∀d,(X.S.ps d).length<=(Y.S.ps d).length:=fun d=>by
 obtain⟨ex,he⟩:=k.pre d;rw[he,aH];omega
theorem Ckp.free(k:Ckp X Y)(c:Cc X L mt):X.S.free<=Y.S.free/\(∀z1 f,X.dead z1=true->X.dead f=true->¬Bu X.S.g z1=Bu X.S.g f->X.S.free+X.S.g.S<=Y.S.free):=by
 have s:=c.c.sm;have:=s.d0;have:=s.s0;unfold Mi.free;rw[k.g,Bmm k.g k.o];refine⟨?_,fun z1 f t h2 hd=>?_⟩
 ·have:=bT (Bfl (n:=X.S.g.D.toNat) (by omega) fun d _=>k.len d) (show 0<=X.S.g.S by omega)
  omega
 ·have dz:∀z,X.dead z=true->0<=Bu X.S.g z/\(Bu X.S.g z).toNat<X.S.g.D.toNat/\(X.S.ps (Bu X.S.g z).toNat).length<(Y.S.ps (Bu X.S.g z).toNat).length:=fun z m=>by
   obtain⟨p,_,_,_,_,q⟩:=Ff.1 (Ac1.1 m).1;have i:(Bu X.S.g z).toNat<X.S.g.D.toNat:=by
    rcases Ko s z with y|⟨_,y,_⟩<;>omega
   refine⟨p,i,?_⟩;obtain⟨ex,he⟩:=k.pre (Bu X.S.g z).toNat;have hm:=k.fr z m;rw[he]at hm⊢;rcases bO.1 hm with y|y
   ·rw[J9.2 ⟨_,i,y⟩]at q;cases q
   ·have:=List.length_pos_of_mem y
    rw[aH];omega
  obtain⟨p,u,v⟩:=dz z1 t;obtain⟨b1,b2,b3⟩:=dz f h2;have:=Bgu (a:=(Bu X.S.g z1).toNat) (b:=(Bu X.S.g f).toNat) (by omega) u b2 (fun d _=>k.len d) v b3;have:=bT this (show 0<=X.S.g.S by omega);rw[Int.mul_add,Int.mul_one]at this;omega
structure Pt(X Y:Co)(mt mt':Int->Int)(e:En)(x:Me):Prop where
 es:Y.es=X.es
 nm:Y.gen=X.gen/\Y.ep=X.ep/\Y.nx=X.nx+1/\Y.st=X.st
 g:Y.S.g=X.S.g
 free:X.S.free-1<=Y.S.free
 cl:∀z,X.closed z=true->Y.closed z=true
 mt:∀x∈X.es,x.state=1->mt' x.Aj=mt x.Aj/\mt' x.Ba=mt x.Ba
 lv:¬e.kind=2->Mf Y mt' x e.bytes
 sq:x.seq=X.nx
 st:x.state=1
 sm:x.sum=(Ga e.bytes:Nat)
 rg:Rng x.Aj/\Rng x.Ba
 op:x.Aj=Y.S.a/\x.Ba=Y.S.b
theorem Bh6(c:Cc X L mt)(f:e.Wf)(he:EOk e X.ep X.nx)(t:1<=X.S.free):∃T mt' x,X.S.place e X.ep X.nx=(T,x,0)/\Cc { X with S:=T,nx:=X.nx+1 } L mt'/\Pt X { X with S:=T,nx:=X.nx+1 } mt mt' e x:=by
 obtain⟨T,i⟩:=Bgv c.c t;obtain⟨mt',c1,f1,a,u,l1,m1⟩:=c.opened i;obtain⟨c2,f2,rc⟩:=c1.Zq a f he;obtain⟨k,m,n3,n4,D,E,G⟩:=c1.c.ne a;have pl:=Bgf c.c he;rw[i]at pl;have s:=c1.c.sm;have o:=c1.opm a.1;refine⟨_,mt',_,pl,c2,rfl,⟨rfl,rfl,rfl,rfl⟩,u,?_,fun z p=>?_,m1,fun v=>⟨rfl,?_,rc v,o.1,o.2,.inl ⟨rfl,rfl⟩⟩,rfl,rfl,rfl,⟨Af4 s k,Af4 s m⟩,rfl,rfl⟩
 ·show X.S.free-1<=(T.Zq e X.ep X.nx).free
  have:(T.Zq e X.ep X.nx).free=T.free-1:=f2;omega
 ·have:=l1 z (Ff.1 p).1 p
  exact this
 ·have y:=EOk.seq he
  have C:=c.nm.2.2;have hs:=A80 (l:=e.bytes) f.u8;have q:=a.2;show meB T.g _=true;unfold meB;simp only[aR,aQ];refine⟨Bc3 c1.c.rt k n4 q,Bc3 c1.c.rt m n4 q,n3,C,y.2.1,by omega,by omega⟩
section
variable (A:Bj disp)(hK:10000<K)
include A hK
theorem Btp(hd:22<=d)(w:e.Wf)(C:Cz h B X F)(c:Cc X L mt)(he:EOk e X.ep X.nx)(V:1<=X.S.free)(hx:X.nx<=281474976710655):Ok (Ae TT disp K d false 78 [.ptr B.c 0,.agg e.cells] h) fun v h'=>∃x Y mt',v=.tuple [.agg x.cells,I 0]/\Ej h h' B X F Y/\Cc Y L mt'/\Pt X Y mt mt' e x:=by
 obtain⟨dd,rfl⟩:∃k,d=k+1:=⟨d-1,by omega⟩;rw[Amj A (by omega)];simp only[Aoa,Aa];rw[show(h.new (.cells e.cells 131)).next=h.next+1 from rfl];have t:Ext h ((h.new (.cells e.cells 131)).new (.cells (Me.nil 0).cells 47)):=(Av.new _ _).Ds _;have W:((h.new (.cells e.cells 131)).new (.cells (Me.nil 0).cells 47)).next=h.next+2:=rfl
 have u:((h.new (.cells e.cells 131)).new (.cells (Me.nil 0).cells 47)).get h.next=some (.cells e.cells 131):=by rw[Az _ (aL _)];exact Ad _ _
 have g4:((h.new (.cells e.cells 131)).new (.cells (Me.nil 0).cells 47)).get (h.next+1)=some (.cells (Me.nil 0).cells 47):=Ad _ _;rw[show[EV.int .i64 0,.int .i64 0,.int .i64 0,.int .i64 0,.int .i64 0,.int .i64 0]=(Me.nil 0).cells from rfl];generalize (h.new (.cells e.cells 131)).new (.cells (Me.nil 0).cells 47)=q at t W u g4⊢;have a:=C.ext t;have f4:Bg F h q (h.next+1):=.inr ⟨by omega,by omega⟩;rw[a.ldS,c.un];simp only[Aa];have lc:=a.hb _ _ a.core;have Z:=a.hb _ _ u;have el:=En.Br w;simp only[Yt,Aa];rw[Ku lc,a.ldM];simp only[Aa,Aw];rw[Ku Z,Bp u rfl (Ai el)];simp only[Aa,Aw];rw[Ku lc,a.ldE];simp only[Aa,Aw];rw[Ku lc,a.ldN];simp only[Aa,Aw];have P:=a.lift;obtain⟨T,mt',x,hp,cc,pt⟩:=Bh6 c w he V;have pl:=A7o A hK (d:=dd) (by omega) P.M P.hb w X.ep X.nx;rw[hp]at pl;refine Ok.bC (S:=fun j=>¬B.fr (Bg F h q) j) pl (fun _ _ p=>p.2.2.1) ?_;rintro _ ad h2 s' ⟨rfl,M',_,D⟩ sm ch E;have mk:=Bd2 X.S e X.ep X.nx;rw[hp]at mk;have c2:=a.Kk (M'.same sm) ch (sm.hb D) mk;have G:=c2.k.at a.hb g4 f4;simp only[Aa];rw[Lf (by rcases E with rfl|⟨w,rfl,_⟩<;>kernel_rfl)];refine Ok.mk rfl rfl fun m Q e3 _=>?_
 have c3:=c2.trans (c2.C.toE Q);have H:=Q.at c2.hb G;have J:B.c≠h2.next:=by have:=c2.hb _ _ c2.C.core;omega
 have O:B.c≠h.next+1:=fun y=>a.out _ f4 (.inl y.symm)
 simp only[I,Ac,aB,Aa];rw[c3.C.ldN];simp only[I,Ac];rw[Cj (by show _<=X.nx+1;have:=c.nm.2.2;omega) (by show X.nx+1<=_;omega)];refine Ok.st1 c3.C.core rfl rfl (by show 5<7;decide) ?_;have c4:=c3.trans (c3.C.Bu3 X.gen X.ep (X.nx+1) X.st);have o:(m.put B.c (.cells (({ X with S:=T,nx:=X.nx+1 }:Co).cells B) 109)).get h2.next=some (.cells x.cells 47):=by rw[Ag _ J];exact e3
 have g:(m.put B.c (.cells (({ X with S:=T,nx:=X.nx+1 }:Co).cells B) 109)).get (h.next+1)=some (.cells (Me.nil 0).cells 47):=by rw[Ag _ O];exact H
 have f:Ej q (m.put B.c (.cells (({ X with S:=T,nx:=X.nx+1 }:Co).cells B) 109)) B X (Bg F h q) { X with S:=T,nx:=X.nx+1 }:=c4;show Ok (Rt _ _ _ _ _ _ (m.put B.c (.cells (({ X with S:=T,nx:=X.nx+1 }:Co).cells B) 109))) _;generalize m.put B.c (.cells (({ X with S:=T,nx:=X.nx+1 }:Co).cells B) 109)=h4 at f o g⊢;have U:=f.hb _ _ g;simp only[Rt,dr];rw[Bp o rfl (Ai (n:=6) rfl)];refine Ok.stW g rfl rfl ?_;rw[Gg (Af _ _ _) A6f.1 A6f.2 rfl];exact .ret ⟨x,_,mt',rfl,Ej.Bp9 t f ((Av.refl (S:=fun i=>i=h.next+1) h4).Ar (.inl rfl) U _) (fun i hi=>by subst hi;omega) (f.hb.put U _),cc,pt⟩
end
end
section
noncomputable def Mi.D9(S:Mi):Mi:={ S with dr:={ S.dr with dv:=S.dr.dv.tick } }
theorem Dq.D9 {S:Mi}(c:Calm S):Dq S S.D9 fun _=>False:=⟨rfl,rfl,rfl,⟨rfl,rfl,rfl⟩,c.ev,c.up,rfl,rfl,rfl,rfl,fun _ _=>⟨rfl,rfl⟩,fun _ y=>y.elim⟩
theorem Cc.q0(C:Cc X L mt){T:Mi}(q:Dq X.S T fun _=>False):Cc { X with S:=T } L mt:=C.dq q (fun _ _ y=>y.elim) fun _ _ _=>⟨fun y=>y,fun y=>y⟩
theorem Cc.copy(C:Cc X L mt){bs:List Nat}(l:Mf X mt x bs):X.S.Dy x x.Aj x.Ba=(X.S.D9,bs,true,0)/\X.S.Dy x x.Ba x.Aj=(X.S.D9,bs,true,0):=by
 obtain⟨e,a,f,k,g,es,m,o⟩:=l.rc.ex;obtain⟨p,h2,hd,E,_⟩:=Azg l.ok;obtain⟨d1,o0,o1⟩:=Aeu p;obtain⟨d2,_,_⟩:=Aeu h2;obtain⟨z0,q,t,z1⟩:=Yu C.c d1;obtain⟨i,u,v,m1⟩:=Yu C.c d2;have sm:=C.c.sm;have s1:=sm.s1;have st1:=(C.s2 _ q).1;have y:=(C.s2 _ u).1;have c1:=Au5 (x:=x) C.c.ev C.c.up a (g.at (z:=x.Aj) (mt:=x.Ba) (off:=x.off) z0 (by omega) i (by omega) o0 (by omega)) rfl t (by omega) o0 m;have c2:=Au5 (x:=x) C.c.ev C.c.up a (g.at (z:=x.Ba) (mt:=x.Aj) (off:=x.off) i (by omega) z0 (by omega) o0 (by omega)) rfl v (by omega) o0 o;have D:¬e.kind=2/\x.seq=x.seq/\((Ga e.bytes:Nat):Int)=x.sum:=⟨k,rfl,by rw[f];exact es.symm⟩;rw[aG D]at c1 c2;rw[c1,c2,<-f];exact⟨rfl,rfl⟩
theorem Mf.Btb{bs:List Nat}(l:Mf X mt x bs):As3 X.S.g x=true:=by
 unfold As3;rw[aM l.st,l.ok];rfl
theorem Cc.read(C:Cc X L mt){bs:List Nat}(l:Mf X mt x bs):X.S.read x=(X.S.D9,bs,0):=by
 unfold Mi.read;rw[aF (by rw[l.Btb];decide),(C.copy l).1,aG (.inl rfl)]
theorem Cc.check(C:Cc X L mt){bs:List Nat}(l:Mf X mt x bs):X.S.check x=(X.S.D9.D9,bs,2,0):=by
 have a:=C.q0 (Dq.D9 C.c);have g:Mf { X with S:=X.S.D9 } mt x bs:=by
  refine⟨l.st,l.ok,l.rc.dq (Dq.D9 C.c) (fun y=>y) fun y=>y,l.m1,l.m2,?_⟩;rw[N1 (Dq.D9 C.c),N1 (Dq.D9 C.c)];exact l.wh
 have f:=(a.copy g).2;unfold Mi.check;rw[aF (by rw[l.Btb];decide),(C.copy l).1];simp only[aD,bD];rw[show(({ X with S:=X.S.D9 }:Co).S.Dy x x.Ba x.Aj)=X.S.D9.Dy x x.Ba x.Aj from rfl]at f;rw[f];unfold Mi.A5h;have b1:X.S.D9.F0 x.Aj=false:=a.F0 _;have b2:X.S.D9.D9.F0 x.Ba=false:=(a.q0 (Dq.D9 a.c)).F0 _;simp only[aD,bD,b1,bM,and_self,fK];rw[show(({ X with S:=X.S.D9 }:Co).S.D9)=X.S.D9.D9 from rfl,b2];rfl
structure Mvs(X Y:Co)(D:Nat->Prop)(k:Nat):Prop where
 len:Y.es.length=X.es.length
 Gx:∀(b:Nat) x,¬D b->X.es[b]? = some x->Y.es[b]? = some x
 mvd:∀(b:Nat) x,D b->X.es[b]? = some x->∃y,Y.es[b]? = some y/\y.state=1/\X.closed y.Aj=false/\X.closed y.Ba=false/\y.sum=x.sum/\X.nx<=y.seq
 nm:Y.gen=X.gen/\Y.ep=X.ep/\Y.nx=X.nx+k/\Y.st=X.st
 g:Y.S.g=X.S.g
 free:X.S.free-k<=Y.S.free
 cl:∀z,X.closed z=true->Y.closed z=true
theorem Mvs.refl(X:Co):Mvs X X (fun _=>False) 0:=⟨rfl,fun _ _ _ h=>h,fun _ _ y=>y.elim,⟨rfl,rfl,by simp,rfl⟩,rfl,by simp,fun _ h=>h⟩
theorem Mvs.trans {Z:Co}{D E:Nat->Prop}{k l:Nat}(a:Mvs X Y D k)(b:Mvs Y Z E l):Mvs X Z (fun i=>D i\/E i) (k+l):=by
 have m:∀z,Y.closed z=false->X.closed z=false:=fun z h=>by
  cases f:X.closed z with
  | false=>rfl
  | true=>rw[a.cl z f]at h;exact h
 refine⟨b.len.trans a.len,fun i x o f=>b.Gx i x (fun y=>o (.inr y)) (a.Gx i x (fun y=>o (.inl y)) f),fun i x o f=>?_,⟨b.nm.1.trans a.nm.1,b.nm.2.1.trans a.nm.2.1,by have:=a.nm.2.2.1;have:=b.nm.2.2.1;omega,b.nm.2.2.2.trans a.nm.2.2.2⟩,b.g.trans a.g,by have:=a.free;have:=b.free;omega,fun z h=>b.cl z (a.cl z h)⟩;have C:=a.nm.2.2.1;rcases fN (D i)with d|d
 ·obtain⟨y,u,h2,G,h4,v,H⟩:=a.mvd i x d f
  rcases fN (E i)with e|e
  ·obtain⟨w,p,q,t,g4,g5,J⟩:=b.mvd i y e u
   exact⟨w,p,q,m _ t,m _ g4,g5.trans v,by omega⟩
  ·exact⟨y,b.Gx i y e u,h2,G,h4,v,H⟩
 ·have e:=o.resolve_left d
  obtain⟨w,p,q,t,g4,g5,J⟩:=b.mvd i x e (a.Gx i x d f);exact⟨w,p,q,m _ t,m _ g4,g5,by omega⟩
theorem Bmw {n j:Int}{bl:List Nat}(i:bl.length=32)(h0:1<=n)(a:n<=281474976710655)(f:0<=j)(g:j<=255):EOk ⟨3,n,1,j,0,0,bl⟩ 1 n:=by
 unfold EOk E9;rw[aG];refine⟨?_,?_,cb _,by show n-1<n;omega⟩
 ·unfold erB Aq0
  simp only[aR,Fl];refine⟨⟨by omega,a⟩,⟨f,g⟩,⟨by decide,by decide⟩,?_⟩;rfl
 ·unfold frB
  simp only[aR,Fl];exact⟨⟨by decide,by decide⟩,⟨by decide,by decide⟩,⟨by decide,by decide⟩,⟨by decide,by decide⟩,by omega,a⟩
end
section
theorem Cc.at(c:Cc X L mt)(f:X.es[j]? = some x)(g:x.state=1):∃bs,L[j]? = some bs/\Mf X mt x bs:=by
 have a:j<L.length:=by rw[c.len];exact(aW.1 f).1
 refine⟨_,aC a,?_⟩;rcases c.A0x j x _ f (aC a)with w|w
 ·rw[w.1]at g;cases g
 ·exact w
theorem Cc.state(c:Cc X L mt)(f:X.es[j]? = some x):x.state=1\/x=Me.nil 0:=by
 have a:j<L.length:=by rw[c.len];exact(aW.1 f).1
 rcases c.A0x j x _ f (aC a)with w|w
 ·exact .inr w.1
 ·exact .inl w.st
theorem Ait {es:List Me}(a:es[j]? = some x):Atk es (j:Int)=(x,0):=by
 have hj:=(aW.1 a).1;unfold Atk;rw[aG ⟨by omega,by omega⟩,aZ,a];rfl
theorem Mf.meR{bs:List Nat}(l:Mf X mt x bs):meR X.S.g x=true:=by
 unfold Go.Ev.meR;rw[aF (by have:=l.st;omega),aG l.st,l.ok]
section
variable (A:Bj disp)(hK:10000<K)
include A hK
theorem Blq(C:Cz h B X F)(c:Cc X L mt)(P:X.es[j]? = some x)(h1:x.state=1)(hf:1<=X.S.free)(hn:X.nx<=281474976710655)(hd:22<=d){v5:Nat}(g5:h.get v5=some (.cells x.cells 47)):
 Ok (Ab0 (Ae TT disp K d false) (Ae TT disp K d true) K (.ptr B.c 0) (I j) (.ptr v5 0) h) fun v h'=>v=I 0/\∃Y mt',Ej h h' B X F Y/\Cc Y L mt'/\Mvs X Y (fun i=>i=j) 1/\∃y,Y.es=X.es.set j y/\y.seq=X.nx:=by
 obtain⟨bs,hL,lv⟩:=c.at P h1;have hj:=(aW.1 P).1;have jb:j<=255:=by have:=c.lb;have:=c.c.sm.b1;omega
 have lc:=C.hb _ _ C.core;have l5:=C.hb _ _ g5;have r:=Ba9 C.sm lv.meR;simp only[Ab0,Aa];rw[Ku lc,C.ldM];simp only[Aa,Aw];rw[Ku l5,Bp g5 rfl (Ai (n:=6) rfl)];simp only[Aa,Aw];have rd:=Box A hK (d:=d) (by omega) C.lift.M C.lift.hb r.1 r.2;have rk:=Bqy X.S x;rw[c.read lv]at rd rk;refine Ok.bC (S:=fun j=>¬B.fr F j) rd (fun _ _ p=>p.2.2.2.1) ?_;rintro _ a2 h2 s' ⟨rfl,t,M',_,Q⟩ sm ch T;have c2:=C.Kk (M'.same sm) ch (sm.hb Q) rk;have o:=c.q0 (Dq.D9 c.c);have u:Mvs X { X with S:=X.S.D9 } (fun _=>False) 0:=⟨rfl,fun _ _ _ h=>h,fun _ _ y=>y.elim,⟨rfl,rfl,by simp,rfl⟩,rfl,by show X.S.free-0<=X.S.free;omega,fun z D=>by rw[N1 (Dq.D9 c.c)];exact D⟩;have e2:({ X with S:=X.S.D9 }:Co).es=X.es/\({ X with S:=X.S.D9 }:Co).nx=X.nx/\({ X with S:=X.S.D9 }:Co).ep=X.ep/\({ X with S:=X.S.D9 }:Co).S.free=X.S.free:=⟨rfl,rfl,rfl,rfl⟩;simp only at c2 o t;generalize ({ X with S:=X.S.D9 }:Co)=Y at c2 o u e2;obtain⟨eY,E,pY,fY⟩:=e2;have ul:(Bh bs).length=32:=by rw[Be,t.1]
 simp only[Aa];rw[Lf (by rcases T with rfl|⟨w,rfl,_⟩<;>kernel_rfl)];refine Ok.mk (by simp) ul fun h3 x3 g7 _=>?_
 have c3:=c2.trans (c2.C.toE x3);simp only[I,Ac,aB,Aa,Amb];have U:=c3.hb _ _ c3.C.core;have l7:=c3.hb _ _ g7;rw[Ku U,c3.C.ldN];simp only[Aa,Aw];rw[Ku l7,Bp g7 rfl (Ai ul)];simp only[Aa,Aw];have fe:=Bia 3 Y.nx 1 (j:Int) t.1;rw[<-En.Js]at fe;rw[show(EV.int .i64 3)=I 3 from rfl,show(EV.int .i64 1)=I 1 from rfl,show(EV.int .i64 (j:Int))=I j from rfl,Ay fe];have G:=c.nm;have pc:=Btp A hK (d:=d) (by omega) (⟨t.1,t.2⟩:(⟨3,Y.nx,1,(j:Int),0,0,bs⟩:En).Wf) c3.C.lift o (by rw[pY,E,G.2.1];exact Bmw t.1 G.2.2 hn (by omega) (by omega)) (by rw[fY];exact hf) (by rw[E];exact hn);refine Ok.bC (S:=fun j=>¬F j) pc (fun _ _ p=>by obtain⟨_,_,_,_,p,_⟩:=p;exact p.k) ?_;rintro _ bj h4 s2 ⟨f,Z,mt',rfl,p,cz,a⟩ V W aa;have c4:Ej h3 h4 B Y F Z:=⟨p.C.same V,W,p.ck⟩;have c4:=c3.trans c4;simp only[Aa,I];rw[Lf (by rcases aa with rfl|⟨w,rfl,_⟩<;>kernel_rfl)];refine Ok.mk rfl rfl fun h5 x5 g9 _=>?_
 have q:=c4.trans (c4.C.toE x5);simp only[Ac,aD,aA,Aa,Ang];have ab:=q.hb _ _ q.C.core;have l9:=q.hb _ _ g9;rw[Ku ab,q.C.ldB];simp only[Aa,Aw];rw[Ku l9,Bp g9 rfl (Ai (n:=6) rfl)];simp only[Aa,Aw];have ll:=a.lv (by show ¬(3:Int)=2;decide);have CL:=q.C.lift;have ms:=Ax1 (K:=K) CL.sm CL.map CL.hb (x:=f) (fun _=>a.rg) (j:Int);have H:j<Z.es.length:=by rw[a.es,eY];exact hj
 have sf:A81 Z.S.g Z.es (j:Int) f=(Z.es.set j f,0):=by
  unfold A81;rw[aG ⟨by omega,by omega⟩,aG ll.meR,aZ]
 rw[sf]at ms;refine Ok.bC (S:=fun i=>i=B.ml\/i=B.ll) ms (fun _ _ p=>p.2.2.1) ?_;rintro _ bt h6 s3 ⟨rfl,m6,_,ae⟩ m af _;have c6:=q.trans (q.C.Bt4 (m6.frame (m.get _) (m.get _) (m.get _)) af (m.hb ae));have cs:=cz.set H (x:=f) (bs:=bs) (.inr ll) (by rw[a.sq,a.nm.2.2.1];omega);have Ls:L.set j bs=L:=by
  apply dY;intro i;rw[dD];split
  ·rename_i e;subst e
   rw[hL];split
   ·rfl
   ·rename_i hh;exact absurd (by rw[c.len];exact hj) hh
  ·rfl
 rw[Ls]at cs;have eZ:Z.es=X.es:=a.es.trans eY;refine .ret ⟨rfl,_,mt',c6,cs,?_,f,by show Z.es.set j f=_;rw[eZ],a.sq.trans E⟩;have nc:∀z,Z.closed z=false->X.closed z=false:=fun z D=>by
  cases J:X.closed z with
  | false=>rfl
  | true=>rw[a.cl z (u.cl z J)]at D;exact D
 have op:Z.closed f.Aj=false/\Z.closed f.Ba=false:=by
  obtain⟨w1,w2⟩:=a.op;constructor
  ·cases J:Z.closed f.Aj with
   | false=>rfl
   | true=>exact absurd w1 (Ff.1 J).2.1
  ·cases J:Z.closed f.Ba with
   | false=>rfl
   | true=>exact absurd w2 (Ff.1 J).2.2.1
 refine⟨by show(Z.es.set j f).length=_;rw[bK,eZ],fun i y hi O=>?_,fun i y hi O=>?_,⟨a.nm.1.trans u.nm.1,a.nm.2.1.trans pY,by show Z.nx=_;rw[a.nm.2.2.1,E];rfl,a.nm.2.2.2.trans u.nm.2.2.2⟩,a.g.trans u.g,?_,fun z D=>a.cl z (u.cl z D)⟩
 ·show(Z.es.set j f)[i]? = some y
  rw[dD,aF (fun e=>hi e.symm),eZ];exact O
 ·subst hi
  rw[P]at O;cases O;refine⟨f,?_,a.st,nc _ op.1,nc _ op.2,?_,by rw[a.sq,E];exact cb _⟩
  ·show(Z.es.set i f)[i]? = some f
   rw[dD,aG rfl,aG H]
  ·obtain⟨e,_,eb,_,_,es,_⟩:=lv.rc.ex
   rw[es];exact a.sm
 ·show X.S.free-(1:Nat)<=Z.S.free
  have:=a.free;rw[fY]at this;exact this
end
end
def Sq(X:Co):Prop:=∀(b f:Nat) (x a:Me),X.es[b]? = some x->X.es[f]? = some a->x.state=1->a.state=1->x.seq=a.seq->b=f
theorem Sq.es(s:Sq X)(h:Y.es=X.es):Sq Y:=by unfold Sq;rw[h];exact s
theorem Sq.set(s:Sq X)(hs:∀x∈X.es,x.seq<X.nx){y:Me}(h:Y.es=X.es.set j y)(i:y.state=1->X.nx<=y.seq):Sq Y:=by
 intro b o x k f a m g e;rw[h,dD]at f a;split at f
 ·rename_i e1
  split at a
  ·rename_i e2;rw[<-e1,<-e2]
  ·split at f
   ·cases f
    have:=hs k (bY a);have:=i m;omega
   ·cases f
 ·split at a
  ·split at a
   ·cases a
    have:=hs x (bY f);have:=i g;omega
   ·cases a
  ·exact s b o x k f a m g e
theorem Mf.Bvk(C:Cc X L mt){bs:List Nat}(l:Mf X mt x bs){s:Int}(a:e.Wf)(f:EOk e X.ep s)(r:(X.S.dr.dv.zs x.Aj.toNat).l[x.off.toNat]? = some (Aqo e x.Aj x.Ba x.off X.ep s)\/(X.S.dr.dv.zs x.Ba.toNat).l[x.off.toNat]? = some (Aqo e x.Ba x.Aj x.off X.ep s)):s=x.seq:=by
 obtain⟨k,h2,hd,v,_⟩:=Azg l.ok;obtain⟨d1,o0,o1⟩:=Aeu k;obtain⟨d2,_,_⟩:=Aeu h2;obtain⟨z0,m,o,z1⟩:=Yu C.c d1;obtain⟨g,p,q,m1⟩:=Yu C.c d2;have sm:=C.c.sm;have s1:=sm.s1;have st1:=(C.s2 _ m).1;have u:=(C.s2 _ p).1;have i:=C.copy l;have key:∀{P:Prop} [Decidable P],(if P then(true,e.bytes)else(false,Dp)).1=true->P:=fun {P} _ h=>by
  by_cases hp:P
  ·exact hp
  ·rw[aF hp]at h;cases h
 rcases r with r|r
 ·have c1:=Au5 (x:=x) C.c.ev C.c.up a (f.at (z:=x.Aj) (mt:=x.Ba) (off:=x.off) z0 (by omega) g (by omega) o0 (by omega)) rfl o (by omega) o0 r
  rw[i.1]at c1;exact(key (congrArg (fun t:Mi × List Nat × Bool × Int=>t.2.2.1) c1).symm).2.1
 ·have c1:=Au5 (x:=x) C.c.ev C.c.up a (f.at (z:=x.Ba) (mt:=x.Aj) (off:=x.off) g (by omega) z0 (by omega) o0 (by omega)) rfl q (by omega) o0 r
  rw[i.2]at c1;exact(key (congrArg (fun t:Mi × List Nat × Bool × Int=>t.2.2.1) c1).symm).2.1
theorem Ap7 {z:Int}:inB z x=true↔x.state=1/\(x.Aj=z\/x.Ba=z):=by
 unfold inB;simp only[aR,dT,aQ]
theorem Cc.apart(C:Cc X L mt)(sq:Sq X){m:Nat}{f:Me}(o:X.es[b]? = some x)(i:X.es[m]? = some f){z:Int}(h:inB z x=true)(h':inB z f=true)(y:x.off=f.off):b=m:=by
 obtain⟨p,g⟩:=Ap7.1 h;obtain⟨k,a⟩:=Ap7.1 h';obtain⟨bs,_,l⟩:=C.at o p;obtain⟨D,_,l'⟩:=C.at i k;refine sq b m x f o i p k ?_;obtain⟨e,E,_,_,G,_,q,t⟩:=l.rc.ex;have m1:=l.m1;have m2:=l.m2;have u:=l'.m1;have v:=l'.m2;refine l'.Bvk C E G ?_;rw[<-y];rcases g with g|g<;>rcases a with a|a
 ·have e1:f.Aj=x.Aj:=a.trans g.symm
  have e2:f.Ba=x.Ba:=by rw[<-u,e1,m1]
  left;rw[e1,e2];exact q
 ·have e1:f.Ba=x.Aj:=a.trans g.symm
  have e2:f.Aj=x.Ba:=by rw[<-v,e1,m1]
  right;rw[e1,e2];exact q
 ·have e1:f.Aj=x.Ba:=a.trans g.symm
  have e2:f.Ba=x.Aj:=by rw[<-u,e1,m2]
  left;rw[e1,e2];exact t
 ·have e1:f.Ba=x.Ba:=a.trans g.symm
  have e2:f.Aj=x.Aj:=by rw[<-v,e1,m2]
  right;rw[e1,e2];exact t
theorem Aug {z:Int}{es:List Me}:b∈blN z es es.length↔∃x,es[b]? = some x/\inB z x=true:=by
 unfold blN;rw[dU,dG];constructor
 ·rintro⟨h,a⟩
  rw[aC h]at a⊢;exact⟨_,rfl,a⟩
 ·rintro⟨x,f,a⟩
  refine⟨(aW.1 f).1,?_⟩;rw[f];exact a
theorem Bbh(z:Int)(es:List Me)(n:Nat):(blN z es n).Nodup:=List.Pairwise.filter _ List.nodup_range
theorem Bsd(z:Int)(es:List Me):((blN z es es.length).length:Int)=La es z:=by
 have key:∀(l:List Me) (k:Nat),(∀i,i<l.length->es[k+i]? = l[i]?)->(((List.range' k l.length).filter fun i=>inB z ((es[i]?).getD (Me.nil 0))).length:Int)=La l z:=fun l=>by
  induction l with
  | nil=>intro k _;rfl
  | cons x l f=>
   intro k h;have h0:=h 0 (by simp);rw[dL,bL]at h0;have a:=f (k+1) fun i a=>by
    have:=h (i+1) (by rw[bH];omega);rw[bm]at this;rw[<-this];congr 1;omega
   rw[bH,fT,eP,h0,Tp,<-a];simp only[Option.getD_some];unfold Aas;split
   ·rename_i hb
    rw[aG (Ap7.1 hb),bH];omega
   ·rename_i hb
    rw[aF fun y=>hb (Ap7.2 y)];omega
 have:=key es 0 fun i _=>by rw[bJ]
 unfold blN;rw[List.range_eq_range'];exact this
theorem A05 {z:Int}:∀{es:List Me},(∀x∈es,x.state=1->¬x.Aj=z/\¬x.Ba=z)->La es z=0
 | [],_=>rfl
 | x::es,h=>by
  rw[Tp,A05 fun y a=>h y (aT _ a)];unfold Aas;rw[aF]
  ·rfl
  ·rintro⟨f,h2⟩
   have:=h x (aX ..) f;exact h2.elim this.1 this.2
theorem Cc.Bu1(C:Cc X L mt)(sq:Sq X)(z:Int):((blN z X.es X.es.length).length:Int)<=X.S.g.S:=by
 have s:=C.c.sm;have:=s.s0
 let of:Nat->Int:=fun b=>((X.es[b]?).getD (Me.nil 0)).off
 have nd:((blN z X.es X.es.length).map of).Nodup:=by
  rw[List.nodup_iff_pairwise_ne,List.pairwise_map];refine List.Pairwise.imp_of_mem ?_ (Bbh z X.es X.es.length);intro a b u hb k e;obtain⟨x,f,m⟩:=Aug.1 u;obtain⟨v,i,o⟩:=Aug.1 hb;refine k (C.apart sq f i m o ?_);simp only[of,f,i,Option.getD_some]at e;exact e
 have t:=A5y X.S.g.S.toNat _ nd fun w hw=>by
  obtain⟨b,hb,rfl⟩:=bc.1 hw;obtain⟨x,f,m⟩:=Aug.1 hb;obtain⟨bs,_,l⟩:=C.at f (Ap7.1 m).1;obtain⟨t,_⟩:=Azg l.ok;obtain⟨_,o0,o1⟩:=Aeu t;simp only[of,f,Option.getD_some];omega
 have h2:=Bdn (p:=fun w=>decide ((w:Int)∈(blN z X.es X.es.length).map of)) (q:=fun _=>true) X.S.g.S.toNat fun _ _ _=>rfl
 rw[A9b _ fun _ _=>rfl]at h2;rw[bX]at t;omega
end Go.Ev
