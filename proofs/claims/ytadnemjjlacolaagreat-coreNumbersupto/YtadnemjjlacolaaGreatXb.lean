import Derived.Test.YtadnemjjlacolaaGreatXa
set_option linter.all false
namespace Go.Ev
open Go.Proofs
set_option maxRecDepth 100000
variable {F G:Nat->Prop}{h h' h1 h2:Aa}{K M V i n q' qc qh zl:Nat}{q:Nat->Nat}{op cnt:Int}{down:Bool}{Z:Zn}{k:EV->Aa->DX->R}{v cs hs:EV}{x:List EV}{ms ms':List (EV × EV)}{disp:Nat->Option FT}
section
def Bf(F:Nat->Prop)(h h':Aa):Nat->Prop:=fun i=>F i\/(h.next<=i/\i<h'.next)
theorem Ar.grow(a:Ar F h h1)(b:Ar (Bf F h h1) h1 h2):Ar F h h2:=
 a.then b fun i e f=>by
  rcases e with e|e
  ·exact e
  ·omega
theorem Bf.trans(a:h.next<=h1.next)(b:h1.next<=h2.next)(g:Bf (Bf F h h1) h1 h2 i):Bf F h h2 i:=by
 rcases g with(g|g)|g
 ·exact .inl g
 ·exact .inr ⟨g.1,by omega⟩
 ·exact .inr ⟨by omega,g.2⟩
theorem Bf.le(b:h1.next<=h2.next)(g:Bf F h h1 i):Bf F h h2 i:=by
 rcases g with g|g
 ·exact .inl g
 ·exact .inr ⟨g.1,by omega⟩
structure Dv where
 n:Nat
 size:Nat
 op:Int
 cnt:Int
 down:Bool
 zs:Nat->Zn
def Bj(l:List Nat):List EV:=l.map fun(b:Nat)=>EV.int .u8 (Int.ofNat b)
def U8(x:List EV):Prop:=∃l:List Nat,(∀b∈l,b<256)/\x=Bj l
theorem U8.zs:U8 T6:=⟨List.replicate 64 0,fun b hb=>by rw[bL hb];decide,by unfold Bj T6;rw[fU];rfl⟩
structure Zn.Wf(Z:Zn)(size:Nat):Prop where
 u8:∀x∈Z.l,U8 x
 st:Z.st<=4
 safe:Z.safe<=Z.l.length
 len:Z.l.length<=size
 room:Z.st<2->Z.l.length<size
structure Dv.Wf(D:Dv):Prop where
 size:D.size<=64
 n:D.n<=512
 zs:∀i,i<D.n->(D.zs i).Wf D.size
def A0j(V zl n:Nat)(z q:Nat->Nat)(zs:Nat->Zn):Nat->Prop:=fun i=>i=V\/i=zl\/∃d,d<n/\(i=z d\/((zs d).l≠[]/\i=q d))
structure Hc(h:Aa)(V:Nat)(D:Dv)(F:Nat->Prop):Prop where
 wf:D.Wf
 lt:∀i,F i->i<h.next
 Ow:∃zl z q,Lq h V zl D.n z q D.size D.op D.cnt D.down D.zs/\∀i,A0j V zl D.n z q D.zs i->F i
theorem Hc.mono{D:Dv}(d:Hc h V D F)(s:∀i,F i->G i)(l:∀i,G i->i<h.next):Hc h V D G:=by
 obtain⟨zl,z,q,a,b⟩:=d.Ow;exact⟨d.wf,l,zl,z,q,a,fun i e=>s i (b i e)⟩
theorem Bf.lt(l:∀i,F i->i<h.next)(n:h.next<=h'.next):∀i,Bf F h h' i->i<h'.next:=fun i a=>by
 rcases a with a|a
 ·have:=l i a;omega
 ·exact a.2
theorem Hc.grow{D:Dv}(d:Hc h' V D F)(l:∀i,F i->i<h.next)(n:h.next<=h'.next):Hc h' V D (Bf F h h'):=
 d.mono (fun _=>.inl) (Bf.lt l n)
theorem Arz {l:List (List EV)}:l≠[]↔0<l.length:=by rw[List.length_pos_iff]
theorem Lq.frame{z:Nat->Nat}{size:Int}{Zs:Nat->Zn}(d:Lq h V zl n z q size op cnt down Zs)(e:∀i,A0j V zl n z q Zs i->h'.get i=h.get i):Lq h' V zl n z q size op cnt down Zs:=by
 refine⟨d.pos,by rw[e _ (.inl rfl)];exact d.dev,by rw[e _ (.inr (.inl rfl))];exact d.row,fun i f=>?_,d.A4s,d.A75⟩;obtain⟨s,a,b⟩:=(d.Ah i f).Ah;exact⟨⟨s,by rw[e _ (.inr (.inr ⟨i,f,.inl rfl⟩))];exact a,b.frame fun g=>e _ (.inr (.inr ⟨i,f,.inr ⟨Arz.2 g,rfl⟩⟩))⟩,(d.Ah i f).wf⟩
theorem Hc.frame{D:Dv}(d:Hc h V D F)(n:h.next<=h'.next)(e:∀i,F i->h'.get i=h.get i):Hc h' V D F:=by
 obtain⟨zl,z,q,a,b⟩:=d.Ow;exact⟨d.wf,fun i f=>aK (d.lt i f) n,zl,z,q,a.frame fun i f=>e i (b i f),b⟩
theorem Hc.chg{D:Dv}{S:Nat->Prop}(d:Hc h V D F)(c:Ar S h h')(n:∀i,F i->¬S i):Hc h' V D F:=
 d.frame c.next fun i a=>c.get i (d.lt i a) (n i a)
theorem Hc.ext{D:Dv}(d:Hc h V D F)(c:Ext h h'):Hc h' V D F:=d.chg c fun _ _=>id
theorem Lq.A8r{z:Nat->Nat}{size:Int}{Zs:Nat->Zn}(d:Lq h V zl n z q size op cnt down Zs)(f:Int)(e:Bool):
 Lq (h.put V (.cells [.slice zl 0 n n true,I size,I op,I f,.bool e] 183)) V zl n z q size op f e Zs:=by
 refine⟨d.pos,Ae _ _ _,?_,fun i g=>?_,d.A4s,d.A75⟩
 ·rw[Af _ (Bb d.dev d.row (by simp))];exact d.row
 ·obtain⟨s,a,b⟩:=(d.Ah i g).Ah
  refine⟨⟨s,?_,b.frame fun j=>Af _ (Bb d.dev (b.block j) (by simp))⟩,(d.Ah i g).wf⟩;rw[Af _ (Bb d.dev a (by simp))];exact a
def H6(Zs:Nat->Zn)(d:Nat)(Z:Zn):Nat->Zn:=fun e=>if e=d then Z else Zs e
def Az0(q:Nat->Nat)(d x:Nat):Nat->Nat:=fun e=>if e=d then x else q e
theorem Lq.Bbb{z:Nat->Nat}{size:Int}{Zs:Nat->Zn}(d:Lq h V zl n z q size op cnt down Zs)(hb:HB h)(C:i<n)
 (L:Fg h' (z i) q' size Z) (c:Ar (fun j=>j=z i\/((Zs i).l≠[]/\j=q i)) h h') (H:Z.l≠[]->h.next<=q'\/(q'=q i/\(Zs i).l≠[])) :
 Lq h' V zl n z (Az0 q i q') size op cnt down (H6 Zs i Z):=by
 obtain⟨Q,E,bi⟩:=(d.Ah i C).Ah;have O:∀x o,h.get x=some o->(∀l,o≠.vec l 30 64)->¬((Zs i).l≠[]/\x=q i):=by
  rintro x o t m ⟨p,rfl⟩;rw[bi.block (Arz.1 p)]at t;cases t;exact m _ rfl
 have Ju:∀x o,h.get x=some o->x≠z i->(∀l,o≠.vec l 30 64)->h'.get x=some o:=fun x o t P m=>by
  refine c.at hb t ?_;rintro(y|y)
  ·exact P y
  ·exact O x o t m y
 refine⟨d.pos,Ju _ _ d.dev (Bb d.dev E (by simp)) (by intros;simp),Ju _ _ d.row (Bb d.row E (by simp)) (by intros;simp),fun j hj=>?_,d.A4s,?_⟩
 ·by_cases f:j=i
  ·subst f;simp only[Az0,H6,bI];exact L
  ·simp only[Az0,H6,f,ak]
   obtain⟨s,a,b⟩:=(d.Ah j hj).Ah;refine⟨⟨s,Ju _ _ a (fun e=>f (d.A4s j i hj C e)) (by intros;simp),b.frame fun p=>?_⟩,(d.Ah j hj).wf⟩;have J:=b.block p;refine c.get _ (hb _ _ J) ?_;rintro(y|⟨u,A⟩)
   ·exact Bb J E (by simp) y
   ·exact f (d.A75 j i hj C (Arz.2 p) u A)
 ·intro j k hj B
  have lq:∀j,j<n->(Zs j).l≠[]->q j<h.next:=fun j hj p=>by
   obtain⟨s,a,b⟩:=(d.Ah j hj).Ah;exact hb _ _ (b.block (Arz.1 p))
  by_cases f:j=i<;>by_cases g:k=i
  ·intros;omega
  ·subst f;simp only[Az0,H6,g,bI,ak]
   intro a b e;rcases H a with y|⟨u,A⟩
   ·have:=lq k B b;omega
   ·exact absurd (d.A75 j k hj B A b (by rw[<-u];exact e)).symm g
  ·subst g;simp only[Az0,H6,f,bI,ak]
   intro a b e;rcases H b with y|⟨u,A⟩
   ·have:=lq j hj a;omega
   ·exact absurd (d.A75 j k hj B a A (by rw[<-u];exact e)) f
  ·simp only[Az0,H6,f,g,ak]
   exact d.A75 j k hj B
def Dv.has(D:Dv)(i:Int):Bool:=decide (0<=i/\i<D.n)
def Dv.E1(D:Dv)(i:Int):Int:=if D.down=true then 34 else if D.has i=false then 13 else 0
noncomputable def Dv.tick(D:Dv):Dv:={ D with cnt:=De .i64 (D.cnt+1) }
noncomputable def Dv.begin(D:Dv)(i:Int):Dv:=if D.E1 i=0 then D.tick else D
def Dv.set(D:Dv)(i:Nat)(Z:Zn):Dv:={ D with zs:=H6 D.zs i Z }
section
variable{z:Nat->Nat}{size:Int}{Zs:Nat->Zn}(d:Lq h V zl n z q size op cnt down Zs)
include d
theorem Lq.list(k:EV->R):Ez (.ptr V 0) h k=k (.slice zl 0 n n true):=by rw[Cs d.dev rfl];rfl
theorem Lq.Bga(a:i<n)(k:EV->R):Aac 1 (.slice zl 0 n n true) (I i) (fun v=>Ez v h k)=k (.ptr (z i) 0):=by
 unfold I;rw[Nw a,Cs d.row rfl,bK,bW,bB,cJ a];rfl
theorem A47(i:Int):H8 K (.ptr V 0) (I i) h=some (.bool (decide (0<=i/\i<n)),h):=by
 simp only[H8,I,Ac,Ab];by_cases h0:0<=i
 ·simp only[h0,aB,Ab,Ac,d.list,Uz,gG]
 ·simp only[h0,aA,Ab,Uz,gF]
end
section
variable{D:Dv}(d:Hc h V D F)(hb:HB h)
include d
theorem Akm(i:Int):H8 K (.ptr V 0) (I i) h=some (.bool (D.has i),h):=by
 obtain⟨w,wl,zl,z,q,a,b⟩:=d;exact A47 a i
theorem A3m(i:Int):Jy K (.ptr V 0) (I i) h=some (I (if D.has i=true then(D.zs i.toNat).st else 4),h):=by
 simp only[Jy,Akm d,Ab];obtain⟨w,wl,zl,z,q,a,b⟩:=d;cases e:D.has i with
 | false=>simp only[Ab,I,aX,ak]
 | true=>
  have:=dI e;obtain⟨j,rfl⟩:∃j:Nat,i=j:=⟨i.toNat,by omega⟩;have hj:j<D.n:=by omega
  simp only[Ab,Zl,a.list,a.Bga hj,Ahz (a.Ah j hj),bI];rfl
include hb
theorem Adc(i:Int):Ok (Hw K (.ptr V 0) (I i) h) fun v h'=>v=I (D.E1 i)/\Hc h' V (D.begin i) F/\Ar F h h'/\HB h'/\h'.next=h.next:=by
 have f:=Akm (K:=K) d i;obtain⟨w,wl,zl,z,q,a,b⟩:=d;unfold Dv.begin Dv.E1;simp only[Hw,Ab,Cs a.dev rfl];cases hd:D.down with
 | true=>
  simp only[Ab,bI,show((34:Int)=0)=False by simp,ak];exact .ret ⟨rfl,⟨w,wl,zl,z,q,a,b⟩,Ar.refl _,hb,rfl⟩
 | false=>
  simp only[Ab,f,aX,ak];cases g:D.has i with
  | false=>
   simp only[Ab,bI,show((13:Int)=0)=False by simp,ak];exact .ret ⟨rfl,⟨w,wl,zl,z,q,a,b⟩,Ar.refl _,hb,rfl⟩
  | true=>
   simp only[Ab,fC,ak,bI,Aae,Cs a.dev rfl,I,Ac];have e:=hb _ _ a.dev;refine Ok.st1 a.dev rfl rfl (by show 3<5;decide) ?_;refine .ret ⟨rfl,⟨⟨w.size,w.n,w.zs⟩,wl,zl,z,q,a.A8r (De .i64 (D.cnt+1)) D.down,b⟩,(Ar.refl h).Aq (.inl (b _ (.inl rfl))) e _,hb.put e _,rfl⟩
end
end
variable {D dv:Dv}
theorem A0p {b:Nat}{s:DX}{call:Aa->R}(hb:Aew b s=true)(a:loose b s.nw = [])(e:call h.lift=some (v,h.lift)):L6 i b s h call k=k v h (s.big i):=by
 have f:Ke b s h=h.lift:=by unfold Ke;rw[a];rfl
 show Ba (Aew b s) (Ev.Ap (call (Ke b s h)) fun v h'=>Pk i b s h h' fun s h=>k v h s) none=_;rw[hb,Aj,f,e];show Pk i b s h h.lift (fun s h=>k v h s)=_;unfold Pk;rw[aQ (show h.next<=h.lift.mw from aE _),Aj,a];rfl
theorem Auf {b:Nat}{s:DX}{call:Aa->R}(a:call h.lift=some (v,h.lift))(hb:Aew b s=true:=by kernel_rfl)(e:loose b s.nw = []:=by kernel_rfl):L6 i b s h call k=k v h (s.big i):=A0p hb e a
theorem Lq.lift{z:Nat->Nat}{size:Int}{Zs:Nat->Zn}(d:Lq h V zl n z q size op cnt down Zs):Lq h.lift V zl n z q size op cnt down Zs:=d.frame fun i _=>By h i
theorem Hc.lift(d:Hc h V D F):Hc h.lift V D F:=d.frame (aE _) fun i _=>By h i
def Ra(Zs:Nat->Zn)(n:Nat):Nat:=((List.range n).filter fun i=>(Zs i).st=1).length
theorem Ary(Zs:Nat->Zn)(n:Nat):Ra Zs (n+1)=Ra Zs n+(if(Zs n).st=1 then 1 else 0):=by
 unfold Ra;rw[cb,eO,aG];congr 1;by_cases a:(Zs n).st=1<;>simp[a]
theorem Bkq(Zs:Nat->Zn)(n:Nat):Ra Zs n<=n:=by
 unfold Ra;have:=eP (fun i=>decide ((Zs i).st=1)) (List.range n);simpa using this
theorem A46{z:Nat->Nat}{size:Int}{Zs:Nat->Zn}(d:Lq h V zl n z q size op cnt down Zs)(j:n<=512):∀(m i:Nat),n-i<m->i<=n ->
 Ij K m (I (Ra Zs i)) (.slice zl 0 n n true) (I n) (I i) h=some (I (Ra Zs n),h):=by
 intro m;induction m with
 | zero=>intro i hm;omega
 | succ m g=>
  intro i hm o;simp only[Ij,I,Ac,Ab];by_cases b:(i:Int)<n
  ·have e:i<n:=by omega
   have f:=d.Bga e;simp only[I]at f;have hle:=Bkq Zs i;simp only[b,aB,Ab,Yg,f,Ahz (d.Ah i e),I,Ac];have a:=g (i+1) (by omega) (by omega);rw[Ary]at a;by_cases h1:(Zs i).st=1
   ·rw[show decide (((Zs i).st:Int)=1)=true by simp[h1]]
    rw[aH h1]at a;simp only[Ab,Ac,Qm];rw[Cq,Cq];exact a
   ·rw[show decide (((Zs i).st:Int)=1)=false by simp;omega]
    rw[aF h1]at a;simp only[Ab,Ac,Qm];rw[Cq];exact a
  ·have:i=n:=by omega
   subst this;simp only[b,aA,Ab,Yj]
theorem Bf2{z:Nat->Nat}{size:Int}{Zs:Nat->Zn}(d:Lq h V zl n z q size op cnt down Zs)(a:n<=512)(b:1000<K):
 O3 K (.ptr V 0) h=some (I (Ra Zs n),h):=by
 simp only[O3,Ab,d.list];exact A46 d a K 0 (by omega) (cQ _)
noncomputable def Dv.append(D:Dv)(i:Int)(x:List EV):Dv × Int × Int:=
 if D.E1 i≠0 then(D,0,D.E1 i)else
 if(D.zs i.toNat).st=0/\D.op<=Ra D.zs D.n then(D.tick,0,33)else
 if 2<=(D.zs i.toNat).st then(D.tick,0,if(D.zs i.toNat).st=2 then 17 else Ks (D.zs i.toNat).st)else
 (D.tick.set i.toNat ((D.zs i.toNat).app D.size x),(D.zs i.toNat).l.length,0)
theorem Zn.Wf.app{size:Nat}(w:Z.Wf size)(hs:Z.st<2)(b:U8 x):(Z.app size x).Wf size:=by
 have:=w.room hs;have:=w.safe;refine⟨fun y a=>?_,?_,?_,?_,?_⟩<;>try simp only[Zn.app,aG,List.length_singleton]
 ·rcases bJ.1 a with a|a
  ·exact w.u8 y a
  ·rw[aM.1 a];exact b
 ·split<;>omega
 ·omega
 ·omega
 ·split<;>omega
theorem Dv.Wf.set(w:D.Wf)(z:Z.Wf D.size):(D.set i Z).Wf:=by
 refine⟨w.size,w.n,fun j hj=>?_⟩;show(H6 D.zs i Z j).Wf D.size;unfold H6;split
 ·exact z
 ·exact w.zs j hj
theorem Hc.Ah(w:D.Wf){z:Nat->Nat}(a:Lq h V zl D.n z q D.size D.op D.cnt D.down D.zs)(b:∀i,A0j V zl D.n z q D.zs i->F i)(wl:∀i,F i->i<h.next)(hb:HB h)(m:i<D.n)
 (A:Z.Wf D.size) (p:Fg h' (z i) q' D.size Z) (c:Ar (fun j=>j=z i\/((D.zs i).l≠[]/\j=q i)) h h') (o:HB h') (t:Z.l≠[]->h.next<=q'\/(q'=q i/\(D.zs i).l≠[])) :
 Hc h' V (D.set i Z) (Bf F h h')/\Ar F h h':=by
 have u:∀j,(j=z i\/((D.zs i).l≠[]/\j=q i))->F j:=by
  rintro j (y|⟨e,f⟩)
  ·exact b j (.inr (.inr ⟨i,m,.inl y⟩))
  ·exact b j (.inr (.inr ⟨i,m,.inr ⟨e,f⟩⟩))
 refine⟨⟨w.set A,Bf.lt wl c.next,zl,z,_,a.Bbb hb m p c t,?_⟩,c.mono u⟩;rintro j (y|y|⟨d,hd,y⟩)
 ·exact .inl (b j (.inl y))
 ·exact .inl (b j (.inr (.inl y)))
 ·rcases y with y|⟨e,f⟩
  ·exact .inl (b j (.inr (.inr ⟨d,hd,.inl y⟩)))
  ·by_cases g:d=i
   ·subst g
    simp only[Dv.set,H6,Az0,bI]at e f;subst f;rcases t e with y|⟨B,C⟩
    ·obtain⟨s,_,r⟩:=p.Ah
     exact .inr ⟨y,o _ _ (r.block (Arz.1 e))⟩
    ·rw[B];exact .inl (u _ (.inr ⟨C,rfl⟩))
   ·simp only[Dv.set,H6,Az0,g,ak]at e f
    exact .inl (b j (.inr (.inr ⟨d,hd,.inr ⟨e,f⟩⟩)))
theorem A0b(d:Hc h V D F)(hb:HB h)(hK:1000<K)(i:Int)(hx:x.length=64)(hu:U8 x):
 Ok (Pn K (.ptr V 0) (I i) (.agg x) h) fun v h'=>v=.tuple [I (D.append i x).2.1,I (D.append i x).2.2]/\Hc h' V (D.append i x).1 (Bf F h h')/\Ar F h h'/\HB h':=by
 simp only[Pn,Ab];have U:Ext h (h.new (.cells x 30)):=Ar.new _ _;have B:(h.new (.cells x 30)).get h.next=some (.cells x 30):=Ad _ _
 have u:HB (h.new (.cells x 30)):=hb.new _;have d1:=d.ext U;have n1:(h.new (.cells x 30)).next=h.next+1:=rfl
 generalize h.new (.cells x 30)=h1 at U B u d1 n1⊢;refine(Adc (K:=K) d1 u i).Ap ?_;rintro _ h2 ⟨rfl,d2,c2,f,n2⟩;have nx:¬F h.next:=fun y=>bO _ (d.lt _ y)
 have B:=c2.at u B nx;have m:Ar F h h2:=(Ext.to U).trans c2;unfold Dv.append;unfold Dv.begin at d2;by_cases e:D.E1 i=0
 ·rw[aH e]at d2
  rw[aF (by rw[e];exact fun y=>y rfl),e];simp only[I,Ac,aC,aA,Ab,X2];obtain⟨w,wl,zl,z,q,a,b⟩:=d2;have C:D.has i=true:=by
   unfold Dv.E1 at e;cases hh:D.has i with
   | true=>rfl
   | false=>rw[hh]at e;split at e<;>simp at e
  have:=dI C;obtain⟨j,rfl⟩:∃j:Nat,i=j:=⟨i.toNat,by omega⟩;have hj:j<D.n:=by omega
  rw[show(j:Int).toNat=j from rfl];have W:=f _ _ a.dev;have E:=f _ _ a.row;have l5:=f _ _ B;have lz:=f _ _ (a.Ah j hj).Ah.choose_spec.1;have H:∀k:EV->R,Ez (.ptr zl j) h2 k=k (.ptr (z j) 0):=fun k=>by
   have:=a.Bga hj k;unfold I at this;rw[Nw (show j<D.tick.n from hj),bK,bW]at this;exact this
  have J:∀k:EV->R,Aac 1 (.slice zl 0 D.tick.n D.tick.n true) (.int .i64 (j:Int)) k=k (.ptr zl j):=fun k=>by
   rw[Nw (show j<D.tick.n from hj),bK,bW]
  simp only[Ab,Au,Cm W,a.list,J,Cm E,H];rw[Auf (Ahz (a.lift.Ah j hj))];have X:=Bf2 (K:=K) a.lift w.n hK;have dd:∀h',Ext h2 h'->Hc h' V D.tick (Bf F h h')/\Ar F h h'/\HB h':=fun h' Q=>⟨(Hc.ext ⟨w,wl,zl,z,q,a,b⟩ Q).grow d.lt (by have:=m.next;have:=Q.next;omega),m.trans (Ext.to Q),Q.hb f⟩
  have app:¬((D.zs j).st=0/\D.op<=Ra D.zs D.n)->Ok (Qg K (.ptr V 0) (I j) (.ptr h.next 0) h2) fun v h'=>v=.tuple [I (if(D.zs j).st=0/\D.op<=Ra D.zs D.n then(D.tick,0,33)else if 2<=(D.zs j).st then(D.tick,0,if(D.zs j).st=2 then 17 else Ks (D.zs j).st)else(D.tick.set j ((D.zs j).app D.size x),((D.zs j).l.length:Int),(0:Int))).2.1,I (if(D.zs j).st=0/\D.op<=Ra D.zs D.n then(D.tick,0,33)else if 2<=(D.zs j).st then(D.tick,0,if(D.zs j).st=2 then 17 else Ks (D.zs j).st)else(D.tick.set j ((D.zs j).app D.size x),((D.zs j).l.length:Int),(0:Int))).2.2]/\Hc h' V (if(D.zs j).st=0/\D.op<=Ra D.zs D.n then(D.tick,0,33)else if 2<=(D.zs j).st then(D.tick,0,if(D.zs j).st=2 then 17 else Ks (D.zs j).st)else(D.tick.set j ((D.zs j).app D.size x),((D.zs j).l.length:Int),(0:Int))).1 (Bf F h h')/\Ar F h h'/\HB h':=by
   intro Y;rw[aF Y];simp only[Qg,I,Ab,Au,Cm W,a.list,J,Cm E,H,Cm l5,Cw B rfl,Ak hx];have wz:=w.zs j hj;have ab:=w.size;have ad:=wz.len;by_cases A:2<=(D.zs j).st
   ·rw[aH A]
    refine Ok.bE (Ayw (K:=K) (a.lift.Ah j hj) (Dg f) A wz.st x) (fun _ _ p=>p.2) ?_;rintro _ h3 h4 ⟨rfl,_⟩ sm x4;simp only[Ab];exact .ret ⟨rfl,dd h4 x4⟩
   ·rw[aF A]
    have t:(D.zs j).st<2:=by omega
    refine Ok.Bgr (S:=fun i=>i=z j\/(0<(D.zs j).l.length/\i=q j)) (by kernel_rfl) (by kernel_rfl) (fun _=>by kernel_rfl) (Ayy (K:=K) (size:=D.size) (a.lift.Ah j hj) (Dg f) t (bN ad ab) hx) (fun _ _ p=>p.2.2.1) ?_;rintro _ h3 h4 s' ⟨rfl,⟨q',zz,L⟩,_,ae⟩ sm c4 _;simp only[Ab];have O:=sm.hb ae;have af:Fg h4 (z j) q' D.size ((D.zs j).app D.size x):=zz.ext fun i o g=>by rw[sm.get];exact g
    obtain⟨d4,P⟩:=Hc.Ah w a b wl f hj (wz.app t hu) af (c4.mono fun i hi=>by
     rcases hi with y|⟨y1,y2⟩
     ·exact .inl y
     ·exact .inr ⟨Arz.2 y1,y2⟩) O (fun _=>.inl (by rw[Ait]at L;exact L))
    refine .ret ⟨rfl,?_,m.trans P,O⟩;refine d4.mono (fun i hi=>?_) (Bf.lt d.lt (m.trans P).next);rcases hi with y|y
    ·exact .inl y
    ·exact .inr ⟨bN m.next y.1,y.2⟩
  simp only[I,Ac];by_cases h0:(D.zs j).st=0
  ·rw[show decide (((D.tick.zs j).st:Int)=0)=true from aP (by show((D.zs j).st:Int)=0;omega)]
   simp only[Ab,Ac];rw[Auf X];rw[Jb W,Cs a.dev rfl];simp only[Ab,I,Ac,Lw];by_cases T:D.op<=Ra D.zs D.n
   ·rw[show decide (D.tick.op<=((Ra D.tick.zs D.tick.n:Nat):Int))=true from aP T]
    simp only[Ab];rw[aH ⟨h0,T⟩];exact .ret ⟨rfl,dd h2 (Ar.refl _)⟩
   ·rw[show decide (D.tick.op<=((Ra D.tick.zs D.tick.n:Nat):Int))=false from aO T]
    simp only[Ab];exact app fun y=>T y.2
  ·rw[show decide (((D.tick.zs j).st:Int)=0)=false from aO (by show ¬((D.zs j).st:Int)=0;omega)]
   simp only[Ab,Ac,Lw];exact app fun y=>h0 y.1
 ·rw[aF e]at d2
  rw[aH e];simp only[I,Ac,e,aN,aB,Ab];exact .ret ⟨rfl,d2.grow d.lt m.next,m,f⟩
def Dv.read(D:Dv)(i off:Int):List EV × Int:=if D.E1 i≠0 then(T6,D.E1 i)else Ad9 (D.zs i.toNat) off
theorem Dv.A3r{i:Int}(a:D.E1 i=0):∃j:Nat,i=j/\j<D.n:=by
 have b:D.has i=true:=by
  unfold Dv.E1 at a;cases e:D.has i with
  | true=>rfl
  | false=>rw[e]at a;split at a<;>simp at a
 have:=dI b;exact⟨i.toNat,by omega,by omega⟩
theorem Lq.A43{z:Nat->Nat}{size:Int}{Zs:Nat->Zn}(d:Lq h V zl n z q size op cnt down Zs){j:Nat}(hj:j<n):
 (∀k:EV->R,Aac 1 (.slice zl 0 n n true) (.int .i64 (j:Int)) k=k (.ptr zl j))/\(∀k:EV->R,Ez (.ptr zl j) h k=k (.ptr (z j) 0)):=by
 have a:∀k:EV->R,Aac 1 (.slice zl 0 n n true) (.int .i64 (j:Int)) k=k (.ptr zl j):=fun k=>by
  rw[Nw hj,bK,bW]
 refine⟨a,fun k=>?_⟩;have:=d.Bga hj k;unfold I at this;rw[a]at this;exact this
theorem A5b(d:Hc h V D F)(hb:HB h)(i off:Int):
 Ok (St K (.ptr V 0) (I i) (I off) h) fun v h'=>v=.tuple [.agg (D.read i off).1,I (D.read i off).2]/\(D.read i off).1.length=64/\Hc h' V (D.begin i) (Bf F h h')/\Ar F h h'/\HB h':=by
 simp only[St,Ab];have B:Ext h (h.new (.cells (List.replicate 64 (.int .u8 0)) 30)):=Ar.new _ _;have u:(h.new (.cells (List.replicate 64 (.int .u8 0)) 30)).get h.next=some (.cells T6 30):=Ad _ _
 have m:HB (h.new (.cells (List.replicate 64 (.int .u8 0)) 30)):=hb.new _;have d1:=d.ext B;generalize h.new (.cells (List.replicate 64 (.int .u8 0)) 30)=h1 at B u m d1⊢;refine(Adc (K:=K) d1 m i).Ap ?_;rintro _ h2 ⟨rfl,d2,c2,o,T⟩;have nx:¬F h.next:=fun y=>bO _ (d.lt _ y)
 have u:=c2.at m u nx;have C:Ar F h h2:=(Ext.to B).trans c2;have fin:∀(l:List EV) (e:Int) (g:Aa),Ext h2 g->l.length=64->Ok (stE 64 (.ptr h.next 0) (.agg l) g fun h=>It TT [.c (.ptr h.next 0) 30,.v (I e)] h) (fun _ _=>True)->True:=fun _ _ _ _ _ _=>trivial
 clear fin;have fin:∀(l:List EV) (e:Int) (g:Aa) (E:Aa->R),(∀h',E h'=It TT [.c (.ptr h.next 0) 30,.v (I e)] h')->Ext h2 g->l.length=64->(l,e)=D.read i off->Ok (stE 64 (.ptr h.next 0) (.agg l) g E) fun v h'=>v=.tuple [.agg (D.read i off).1,I (D.read i off).2]/\(D.read i off).1.length=64/\Hc h' V (D.begin i) (Bf F h h')/\Ar F h h'/\HB h':=by
  intro l e g E H p A he;have t:=p.hb o;have P:=p.at o u;refine Ok.st l P rfl (by rw[show EV.cells (.agg l)=l from rfl,Bc,A]) (Bk (by rw[Kn];exact A.symm)) ?_;rw[H,Ff (Ae _ _ _) Awi.1 Awi.2 A,<-he];have Q:=t _ _ P;have c3:Ar F h (g.put h.next (.cells l 30)):=(C.trans (Ext.to p)).Aq (.inr (aE _)) Q _;refine .ret ⟨rfl,A,?_,c3,t.put Q _⟩;refine(((d2.ext p).frame (h':=g.put h.next (.cells l 30)) (aE _) fun j hj=>Af _ fun y=>?_)).grow d.lt c3.next
  subst y;exact nx hj
 unfold Dv.read at fin⊢;by_cases f:D.E1 i=0
 ·rw[aF (by rw[f];exact fun y=>y rfl)]at fin⊢
  have J:D.begin i=D.tick:=by unfold Dv.begin;rw[aH f]
  rw[J]at d2 fin⊢;rw[f];obtain⟨j,rfl,hj⟩:=Dv.A3r f;obtain⟨zl,z,q,a,b⟩:=d2.Ow;obtain⟨L,O⟩:=a.A43 (j:=j) hj;simp only[I,Ac,aC,aA,Ab,Ab9,a.list,L,O];refine(A2c (K:=K) (a.Ah j hj) o off).Ap ?_;rintro _ g ⟨rfl,p⟩;simp only[Ab];exact fin _ _ g _ (fun _=>rfl) p (Bd0 (a.Ah j hj).wf off) rfl
 ·rw[aH f]at fin⊢
  simp only[I,Ac,f,aN,aB,Ab];rw[Ax (l:=T6) rfl];exact fin T6 (D.E1 i) h2 _ (fun _=>rfl) (Ar.refl _) Kn rfl
noncomputable def Dv.finish(D:Dv)(i:Int):Dv × Int:=
 if D.E1 i≠0 then(D,D.E1 i)else
 (if Ks (D.zs i.toNat).st=0 then D.tick.set i.toNat (D.zs i.toNat).finish else D.tick,Ks (D.zs i.toNat).st)
theorem Zn.Wf.finish{size:Nat}(w:Z.Wf size):Z.finish.Wf size:=⟨w.u8,by show 2<=4;omega,w.safe,w.len,fun y=>absurd y (by show ¬2<2;omega)⟩
theorem Azp(d:Hc h V D F)(hb:HB h)(i:Int):
 Ok (Pb K (.ptr V 0) (I i) h) fun v h'=>v=I (D.finish i).2/\Hc h' V (D.finish i).1 (Bf F h h')/\Ar F h h'/\HB h':=by
 simp only[Pb,dr];refine(Adc (K:=K) d hb i).Ap ?_;rintro _ h2 ⟨rfl,d2,c2,m,H⟩;unfold Dv.finish;by_cases f:D.E1 i=0
 ·rw[aF (by rw[f];exact fun y=>y rfl),f]
  have p:D.begin i=D.tick:=by unfold Dv.begin;rw[aH f]
  rw[p]at d2;obtain⟨j,rfl,hj⟩:=Dv.A3r f;obtain⟨zl,z,q,a,b⟩:=d2.Ow;obtain⟨u,A⟩:=a.A43 (j:=j) hj;simp only[I,Ac,aC,aA,Ab,Ya,a.list,u,A];refine(Ax0 (K:=K) (a.Ah j hj) m).Ap ?_;rintro _ B ⟨rfl,t,c3,o⟩
  try simp only[Ab]
  rw[show(j:Int).toNat=j from rfl];have t:Fg B (z j) (q j) D.size (if Ks (D.zs j).st=0 then(D.zs j).finish else D.zs j):=t;by_cases C:Ks (D.zs j).st=0
  ·simp only[C,bI]at t⊢
   obtain⟨d3,g⟩:=Hc.Ah d2.wf a b d2.lt m hj (d2.wf.zs j hj).finish t (c3.mono fun _=>.inl) o (fun y=>.inr ⟨rfl,y⟩);refine .ret ⟨by rw[show Ks (D.tick.zs j).st=Ks (D.zs j).st from rfl,C],d3.mono (fun i E=>?_) (Bf.lt d.lt (c2.trans g).next),c2.trans g,o⟩;rcases E with y|y
   ·exact .inl y
   ·exact .inr ⟨bN c2.next y.1,y.2⟩
  ·simp only[C,ak]at t⊢
   obtain⟨d3,g⟩:=Hc.Ah d2.wf a b d2.lt m hj (d2.wf.zs j hj) t (c3.mono fun _=>.inl) o (fun y=>.inr ⟨rfl,y⟩);have e:D.tick.set j (D.zs j)=D.tick:=by
    unfold Dv.set;have:H6 D.tick.zs j (D.zs j)=D.tick.zs:=by funext k;unfold H6;split<;>simp_all [Dv.tick]
    rw[this]
   have d3:Hc B V (D.tick.set j (D.zs j)) (Bf F h2 B):=d3;rw[e]at d3;refine .ret ⟨rfl,d3.mono (fun i E=>?_) (Bf.lt d.lt (c2.trans g).next),c2.trans g,o⟩;rcases E with y|y
   ·exact .inl y
   ·exact .inr ⟨bN c2.next y.1,y.2⟩
 ·rw[aH f]
  have p:D.begin i=D:=by unfold Dv.begin;rw[aF f]
  rw[p]at d2;simp only[I,Ac,f,aN,aB,Ab];exact .ret ⟨rfl,d2.grow d.lt c2.next,c2,m⟩
noncomputable def Dv.Bnd(D:Dv):Dv:={ D with down:=true }
theorem A3f(d:Hc h V D F)(hb:HB h):
 Ok (Rf K (.ptr V 0) h) fun v h'=>Hc h' V D.Bnd F/\Ar F h h'/\HB h':=by
 obtain⟨w,wl,zl,z,q,a,b⟩:=d;simp only[Rf,Ab];have e:=hb _ _ a.dev;refine Ok.st1 a.dev rfl rfl (by show 4<5;decide) ?_;exact .ret ⟨⟨⟨w.size,w.n,w.zs⟩,wl,zl,z,q,a.A8r D.cnt true,b⟩,(Ar.refl h).Aq (.inl (b _ (.inl rfl))) e _,hb.put e _⟩
structure Apj(h:Aa)(V zl:Nat)(z:Nat->Nat)(D:Dv)(F:Nat->Prop):Prop where
 wf:D.Wf
 lt:∀i,F i->i<h.next
 Ow:∃q,Lq h V zl D.n z q D.size D.op D.cnt D.down D.zs/\∀i,A0j V zl D.n z q D.zs i->F i
theorem Hc.z(d:Hc h V D F):∃zl z,Apj h V zl z D F:=by
 obtain⟨zl,z,q,a,b⟩:=d.Ow;exact⟨zl,z,d.wf,d.lt,q,a,b⟩
theorem Apj.s{z:Nat->Nat}(d:Apj h V zl z D F):Hc h V D F:=by
 obtain⟨q,a,b⟩:=d.Ow;exact⟨d.wf,d.lt,zl,z,q,a,b⟩
theorem Apj.mono{z:Nat->Nat}(d:Apj h V zl z D F)(s:∀i,F i->G i)(l:∀i,G i->i<h.next):Apj h V zl z D G:=by
 obtain⟨q,a,b⟩:=d.Ow;exact⟨d.wf,l,q,a,fun i e=>s i (b i e)⟩
theorem Apj.congr{z:Nat->Nat}(d:Apj h V zl z D F){zs':Nat->Zn}(e:∀i,i<D.n->zs' i=D.zs i):Apj h V zl z { D with zs:=zs' } F:=by
 obtain⟨q,a,b⟩:=d.Ow;refine⟨⟨d.wf.size,d.wf.n,fun i f=>?_⟩,d.lt,q,⟨a.pos,a.dev,a.row,fun i f=>?_,a.A4s,fun i j f hj=>?_⟩,?_⟩
 ·show(zs' i).Wf _;rw[e i f];exact d.wf.zs i f
 ·show Fg _ _ _ _ (zs' i);rw[e i f];exact a.Ah i f
 ·show(zs' i).l≠[]->(zs' j).l≠[]->_;rw[e i f,e j hj];exact a.A75 i j f hj
 ·rintro i (y|y|⟨k,g,y⟩)
  ·exact b i (.inl y)
  ·exact b i (.inr (.inl y))
  ·refine b i (.inr (.inr ⟨k,g,?_⟩))
   have y:i=z k\/(zs' k).l≠[]/\i=q k:=y;rw[e k g]at y;exact y
theorem Apj.Ah{z:Nat->Nat}(d:Apj h V zl z D F)(a:Lq h V zl D.n z q D.size D.op D.cnt D.down D.zs)(b:∀i,A0j V zl D.n z q D.zs i->F i)(hb:HB h)(m:i<D.n)
 (A:Z.Wf D.size) (p:Fg h' (z i) q' D.size Z) (c:Ar (fun j=>j=z i\/((D.zs i).l≠[]/\j=q i)) h h') (o:HB h') (t:Z.l≠[]->h.next<=q'\/(q'=q i/\(D.zs i).l≠[])) :
 Apj h' V zl z (D.set i Z) (Bf F h h')/\Ar F h h':=by
 have u:∀j,(j=z i\/((D.zs i).l≠[]/\j=q i))->F j:=by
  rintro j (y|⟨e,f⟩)
  ·exact b j (.inr (.inr ⟨i,m,.inl y⟩))
  ·exact b j (.inr (.inr ⟨i,m,.inr ⟨e,f⟩⟩))
 refine⟨⟨d.wf.set A,Bf.lt d.lt c.next,_,a.Bbb hb m p c t,?_⟩,c.mono u⟩;rintro j (y|y|⟨d,hd,y⟩)
 ·exact .inl (b j (.inl y))
 ·exact .inl (b j (.inr (.inl y)))
 ·rcases y with y|⟨e,f⟩
  ·exact .inl (b j (.inr (.inr ⟨d,hd,.inl y⟩)))
  ·by_cases g:d=i
   ·subst g
    simp only[Dv.set,H6,Az0,bI]at e f;subst f;rcases t e with y|⟨B,C⟩
    ·obtain⟨s,_,r⟩:=p.Ah
     exact .inr ⟨y,o _ _ (r.block (Arz.1 e))⟩
    ·rw[B];exact .inl (u _ (.inr ⟨C,rfl⟩))
   ·simp only[Dv.set,H6,Az0,g,ak]at e f
    exact .inl (b j (.inr (.inr ⟨d,hd,.inr ⟨e,f⟩⟩)))
def Au8(f:Nat->Zn->Zn)(zs:Nat->Zn)(i:Nat):Nat->Zn:=fun j=>if j<i then f j (zs j)else zs j
theorem A91(f:Nat->Zn->Zn)(zs:Nat->Zn)(i:Nat):Au8 f zs (i+1)=H6 (Au8 f zs i) i (f i (zs i)):=by
 funext j;unfold Au8 H6;by_cases h1:j=i
 ·subst h1;simp
 ·by_cases h2:j<i
  ·rw[aH (by omega),aF h1];exact(aH h2).symm
  ·rw[aF (by omega),aF h1];exact(aF h2).symm
theorem A5f(f:Nat->Zn->Zn)(zs:Nat->Zn)(i:Nat):Au8 f zs i i=zs i:=by unfold Au8;rw[aF (by omega)]
noncomputable def Dv.flush(D:Dv):Dv × Int:=if D.down=true then(D,34)else({ D.tick with zs:=fun i=>(D.zs i).flush },0)
theorem Zn.Wf.flush{size:Nat}(w:Z.Wf size):Z.flush.Wf size:=⟨w.u8,w.st,aE _,w.len,w.room⟩
theorem A9j{z:Nat->Nat}(h0:Aa)(o:∀j,F j->j<h0.next):∀(m i:Nat) (h:Aa),D.n-i<m->i<=D.n->HB h->Ar F h0 h->Apj h V zl z { D with zs:=Au8 (fun _ Z=>Z.flush) D.zs i } (Bf F h0 h) ->
 Ok (Jm K m (.slice zl 0 D.n D.n true) (I D.n) (I i) h) fun v h'=>v=I 0/\Apj h' V zl z { D with zs:=Au8 (fun _ Z=>Z.flush) D.zs D.n } (Bf F h0 h')/\Ar F h0 h'/\HB h':=by
 intro m;induction m with
 | zero=>intro i h hm;omega
 | succ m E=>
  intro i h hm J hb c d;have A:=d.wf.n;have A:D.n<=512:=A;simp only[Jm,I,Ac,Ab];by_cases f:(i:Int)<D.n
  ·have e:i<D.n:=by omega
   obtain⟨q,a,b⟩:=d.Ow;obtain⟨p,t⟩:=a.A43 (j:=i) e;simp only[f,aB,Ab,Z7,p,t];have B:=a.Ah i e;have C:=d.wf.zs i e;simp only[A5f]at B C;refine(A0l (K:=K) B hb).Ap ?_;rintro _ h1 ⟨H,c1,g⟩;simp only[Zj,I,Ac];rw[Cq];obtain⟨d1,u⟩:=d.Ah a b hb e C.flush H (c1.mono fun _=>.inl) g (fun y=>.inr ⟨rfl,by simp only[A5f];exact y⟩);have c2:=c.grow u;refine E (i+1) h1 (by omega) (by omega) g c2 ?_;rw[A91];exact d1.mono (fun j hj=>Bf.trans c.next c1.next hj) (Bf.lt o c2.next)
  ·have:i=D.n:=by omega
   subst this;simp only[f,aA,Ab,Aau];exact .ret ⟨rfl,d,c,hb⟩
theorem A3i(d:Hc h V D F)(hb:HB h)(o:1000<K):
 Ok (Q7 K (.ptr V 0) h) fun v h'=>v=I D.flush.2/\Hc h' V D.flush.1 (Bf F h h')/\Ar F h h'/\HB h':=by
 obtain⟨w,wl,zl,z,q,a,b⟩:=d;have p:=w.n;unfold Dv.flush;simp only[Q7,Ab,Cs a.dev rfl];cases hd:D.down with
 | true=>
  simp only[Ab,bI];exact .ret ⟨rfl,Hc.grow ⟨w,wl,zl,z,q,a,b⟩ wl (aE _),Ar.refl _,hb⟩
 | false=>
  simp only[Ab,aX,ak,Zx,Cs a.dev rfl,I,Ac];have g:=hb _ _ a.dev;refine Ok.st1 a.dev rfl rfl (by show 3<5;decide) ?_;have c1:Ar F h (h.put V (.cells ([EV.slice zl 0 D.n D.n true,I D.size,I D.op,I D.cnt,.bool D.down].set 3 (.int .i64 (De .i64 (D.cnt+1)))) 183)):=(Ar.refl h).Aq (.inl (b _ (.inl rfl))) g _;have e:HB (h.put V (.cells ([EV.slice zl 0 D.n D.n true,I D.size,I D.op,I D.cnt,.bool D.down].set 3 (.int .i64 (De .i64 (D.cnt+1)))) 183)):=hb.put g _;have d1:Apj (h.put V (.cells ([EV.slice zl 0 D.n D.n true,I D.size,I D.op,I D.cnt,.bool D.down].set 3 (.int .i64 (De .i64 (D.cnt+1)))) 183)) V zl z D.tick F:=⟨⟨w.size,w.n,w.zs⟩,wl,q,a.A8r (De .i64 (D.cnt+1)) D.down,b⟩;generalize h.put V (.cells ([EV.slice zl 0 D.n D.n true,I D.size,I D.op,I D.cnt,.bool D.down].set 3 (.int .i64 (De .i64 (D.cnt+1)))) 183)=h1 at c1 e d1⊢;obtain⟨t,j,b1⟩:=d1.Ow;rw[Cs j.dev rfl];simp only[Ab];have:=A9j (K:=K) (D:=D.tick) (F:=F) h wl K 0 h1 (by show D.n-0<K;omega) (cQ _) e c1 (Apj.congr (d1.mono (fun _=>.inl) (Bf.lt wl c1.next)) (fun i _=>by unfold Au8;rw[aF (bm _)]));refine this.mono ?_;rintro v h2 ⟨rfl,d2,c2,f⟩;refine⟨rfl,?_,c2,f⟩;exact(d2.congr (zs':=fun i=>(D.zs i).flush) fun i m=>(aH m).symm).s
def Dv.fail(D:Dv)(i:Int)(st:Nat):Dv:=if D.has i=true then D.set i.toNat ((D.zs i.toNat).fail st)else D
theorem Zn.Wf.fail{size:Nat}(w:Z.Wf size)(st:Nat):(Z.fail st).Wf size:=by
 unfold Zn.fail;split
 ·exact⟨w.u8,by show st<=4;omega,w.safe,w.len,fun y=>absurd y (by show ¬st<2;omega)⟩
 ·exact w
theorem A76(d:Hc h V D F)(hb:HB h)(i:Int)(st:Nat):
 Ok (Om K (.ptr V 0) (I i) (I st) h) fun v h'=>Hc h' V (D.fail i st) (Bf F h h')/\Ar F h h'/\HB h':=by
 simp only[Om,Akm d,Ab];unfold Dv.fail;cases o:D.has i with
 | false=>
  simp only[Ab,aX,ak];exact .ret ⟨d.grow d.lt (aE _),Ar.refl _,hb⟩
 | true=>
  have:=dI o;obtain⟨j,rfl⟩:∃j:Nat,i=j:=⟨i.toNat,by omega⟩;have hj:j<D.n:=by omega
  obtain⟨zl,z,q,a,b⟩:=d.Ow;obtain⟨f,g⟩:=a.A43 (j:=j) hj;simp only[Ab,bI,Acp,a.list];unfold I;rw[f,g];refine(A2v (K:=K) (a.Ah j hj) hb st).Ap ?_;rintro _ t ⟨p,c3,e⟩;obtain⟨d3,m⟩:=Hc.Ah d.wf a b d.lt hb hj ((d.wf.zs j hj).fail st) p (c3.mono fun _=>.inl) e (fun y=>.inr ⟨rfl,by
   unfold Zn.fail at y;split at y<;>exact y⟩)
  exact .ret ⟨d3,m,e⟩
def kp(a b:Int):EV:=.agg [I a,I b]
def Aku(ms:List (EV × EV)):Prop:=∀e∈ms,∃a b p n,e=(kp a b,.agg (p++[I n]))/\U8 p/\p.length=64
theorem Ath(a b:Int):Aje (I a) (I b)=some (decide (a=b)):=by
 show Ba (Nat.beq (P7 .i64) (P7 .i64)) (some (eqB a b)) none=_;rw[cK,Aj,Ah1]
theorem Bjh(a b c d:Int):Asy (kp a b) (kp c d)=some (decide (a=c/\b=d)):=by
 show E2 [I a,I b] [I c,I d]=_;unfold E2;rw[Ath];by_cases h1:a=c
 ·rw[aP h1]
  simp only[E2,Ath];by_cases h2:b=d
  ·rw[aP h2,aP ⟨h1,h2⟩]
  ·rw[aO h2,aO fun y=>h2 y.2]
 ·rw[aO h1,aO fun y=>h1 y.1]
  simp only[E2,Ath];by_cases h2:b=d
  ·rw[aP h2]
  ·rw[aO h2]
theorem Ajn(a b:Int):∀(ms:List (EV × EV)) (i:Nat),Aku ms->Hr (kp a b) ms i=some none\/∃j p n,Hr (kp a b) ms i=some (some (j,.agg (p++[I n])))/\U8 p/\p.length=64
 | [],i,_=>.inl rfl
 | (x,y)::r,i,hm=>by
  obtain⟨g,m,p,n,e,hp,o⟩:=hm _ (aW ..);cases e;have t:=Ajn a b r (Nat.succ i) fun e he=>hm e (aR _ he)
  unfold Hr;rw[Bjh];by_cases f:a=g/\b=m
  ·rw[aP f];exact .inr ⟨i,p,n,rfl,hp,o⟩
  ·rw[aO f];exact t
theorem Ark(a b:Int):N5 TT 227 (kp a b)=true:=by
 have h1:TT.key 227=true:=by kernel_rfl
 have h2:TT.eqs 227=some [0,0]:=by kernel_rfl
 unfold N5 kp;simp only[h1,h2,Aj];rw[show shaped [0,0] [I a,I b]=true from rfl,Aj];simp only[E2,Ath,aB]
theorem A05(f:h.get M=some (.map ms))(hm:Aku ms)(a b:Int):∃ms',builtin TT .delete #[140,227] [.map M,kp a b] h=some (.tuple [],h.put M (.map ms'))/\Aku ms':=by
 have hu:TT.Th 140=some (.map 227 246):=by kernel_rfl
 have e:builtin TT .delete #[140,227] [.map M,kp a b] h=Ba (N5 TT 227 (kp a b)) (match h.get M with
  | some (.map es)=>match Hr (kp a b) es 0 with
   | some (some (j,_))=>some (.tuple [],h.put M (.map (es.eraseIdx j)))
   | some none=>some (.tuple [],h.put M (.map es))
   | none=>none
  | _=>none) none:=by
  unfold builtin;simp only[hu];rfl
 rw[e,Ark,Aj,f];rcases Ajn a b ms 0 hm with y|⟨j,p,n,y,_⟩
 ·simp only[y];exact⟨ms,rfl,hm⟩
 ·simp only[y];exact⟨_,rfl,fun e he=>hm e (List.mem_of_mem_eraseIdx he)⟩
theorem Bc3(f:h.get M=some (.map ms))(hm:Aku ms)(a b:Int):∃p n,Ao0 TT 227 246 false (.map M) (kp a b) h=some (.agg (p++[I n]),h)/\U8 p/\p.length=64:=by
 have e:Ao0 TT 227 246 false (.map M) (kp a b) h=Ba (N5 TT 227 (kp a b)) (match h.get M with
  | some (.map es)=>match Hr (kp a b) es 0 with
   | some (some (_,v))=>some (v,h)
   | some none=>oB (fun g=>some (g,h)) (zeroOf TT 246)
   | none=>none
  | _=>none) none:=rfl
 have m:zeroOf TT 246=some (.agg (T6++[I 0])):=by kernel_rfl
 rw[e,Ark,Aj,f];rcases Ajn a b ms 0 hm with y|⟨j,p,n,y,hp,o⟩
 ·simp only[y,m];exact⟨T6,0,rfl,U8.zs,Kn⟩
 ·simp only[y];exact⟨p,n,rfl,hp,o⟩
theorem A4h(g:h.get M=some (.map ms))(hm:Aku ms)(a b:Int){p:List EV}{n:Int}(hp:U8 p)(f:p.length=64):∃ms',Ys TT 227 (.map M) (kp a b) (.agg (p++[I n])) h=some (.tuple [],h.put M (.map ms'))/\Aku ms':=by
 have e:Ys TT 227 (.map M) (kp a b) (.agg (p++[I n])) h=Ba (N5 TT 227 (kp a b)) (match h.get M with
  | some (.map es)=>match Hr (kp a b) es 0 with
   | some (some (j,_))=>some (.tuple [],h.put M (.map (es.set j (kp a b,.agg (p++[I n])))))
   | some none=>some (.tuple [],h.put M (.map (es++[(kp a b,.agg (p++[I n]))])))
   | none=>none
  | _=>none) none:=rfl
 rw[e,Ark,Aj,g];rcases Ajn a b ms 0 hm with y|⟨j,m,o,y,_⟩
 ·simp only[y]
  refine⟨_,rfl,fun e he=>?_⟩;rcases bJ.1 he with he|he
  ·exact hm e he
  ·rw[aM.1 he];exact⟨a,b,p,n,rfl,hp,f⟩
 ·simp only[y]
  refine⟨_,rfl,fun e he=>?_⟩;rcases cm he with he|he
  ·exact hm e he
  ·rw[he];exact⟨a,b,p,n,rfl,hp,f⟩
structure Yb where
 Ow:Int
 kind:Int
 Ah:Int
 off:Int
 pat:List EV
def Yb.cells(e:Yb):List EV:=[I e.Ow,I e.kind,I e.Ah,I e.off]++e.pat
structure Yb.Wf(e:Yb):Prop where
 u8:U8 e.pat
 len:e.pat.length=64
structure Jp where
 dv:Dv
 ev:List Yb
 Pp:List Yb
def Bqn:EV->EV->EV
 | .int k x,.int _ y=>.int k (Int.ofNat (Nat.xor x.toNat y.toNat))
 | a,_=>a
def Xx(a b:List EV):List EV:=List.zipWith Bqn a b
def Dv.Av4(D:Dv)(z off:Int)(p:List EV):Dv:=
 if D.has z=true/\0<=off/\off<(D.zs z.toNat).l.length then D.set z.toNat { D.zs z.toNat with l:=(D.zs z.toNat).l.set off.toNat (Xx (((D.zs z.toNat).l[off.toNat]?).getD T6) p) }else D
noncomputable def Dv.Se(D:Dv)(e:Yb):Dv:=
 if e.kind=1 then D.Av4 e.Ah e.off e.pat else if e.kind=2 then D.fail e.Ah 3 else if e.kind=3 then D.fail e.Ah 4 else if e.kind=4 then D.Bnd else D
noncomputable def Awu:List Yb->Dv->List Yb->Jp
 | [],D,k=>⟨D,[],k⟩
 | e::r,D,k=>if D.down=true\/¬e.Ow<=D.cnt then⟨D,e::r,k⟩else Awu r (D.Se e) (k++[e])
noncomputable def Jp.due(S:Jp):Jp:=Awu S.ev S.dv S.Pp
structure Jp.Wf(S:Jp):Prop where
 ev:S.ev.length+S.Pp.length<=200
 wf:∀e∈S.ev,e.Wf
 hwf:∀e∈S.Pp,e.Wf
structure Ae6(h:Aa)(D V M qc qh:Nat)(cs hs:EV)(ms:List (EV × EV))(S:Jp)(F G:Nat->Prop):Prop where
 Dr:h.get D=some (.cells [.ptr V 0,cs,hs,.map M] 143)
 map:h.get M=some (.map ms)
 marks:Aku ms
 Jj:Cj h cs qc 32 68 S.ev.length (S.ev.map Yb.cells).flatten
 Aq9:Cj h hs qh 32 68 S.Pp.length (S.Pp.map Yb.cells).flatten
 dev:Hc h V S.dv F
 sub:(∀i,F i->G i)/\G D/\G M/\(0<S.ev.length->G qc)/\(0<S.Pp.length->G qh)
 apart:¬F D/\¬F M/\(0<S.ev.length->¬F qc)/\(0<S.Pp.length->¬F qh)/\(0<S.ev.length->0<S.Pp.length->qc≠qh)
structure F0(h:Aa)(D:Nat)(S:Jp)(G:Nat->Prop):Prop where
 lt:∀i,G i->i<h.next
 wf:S.Wf
 Ow:∃V M qc qh cs hs ms F,Ae6 h D V M qc qh cs hs ms S F G
theorem Ae6.mono{D:Nat}{S:Jp}{b:Nat->Prop}(a:Ae6 h D V M qc qh cs hs ms S F G)(s:∀i,G i->b i):Ae6 h D V M qc qh cs hs ms S F b:=
 ⟨a.Dr,a.map,a.marks,a.Jj,a.Aq9,a.dev,⟨fun i e=>s i (a.sub.1 i e),s _ a.sub.2.1,s _ a.sub.2.2.1,fun y=>s _ (a.sub.2.2.2.1 y),fun y=>s _ (a.sub.2.2.2.2 y)⟩,a.apart⟩
theorem F0.mono{D:Nat}{S:Jp}{b:Nat->Prop}(d:F0 h D S G)(s:∀i,G i->b i)(l:∀i,b i->i<h.next):F0 h D S b:=by
 obtain⟨V,M,qc,qh,cs,hs,ms,F,a⟩:=d.Ow;exact⟨l,d.wf,V,M,qc,qh,cs,hs,ms,F,a.mono s⟩
theorem F0.grow{D:Nat}{S:Jp}(d:F0 h' D S G)(l:∀i,G i->i<h.next)(n:h.next<=h'.next):F0 h' D S (Bf G h h'):=d.mono (fun _=>.inl) (Bf.lt l n)
theorem F0.Bko{D:Nat}{S:Jp}(d:F0 h2 D S (Bf (Bf G h h1) h1 h2))(a:h.next<=h1.next)(b:h1.next<=h2.next)(l:∀i,G i->i<h.next):F0 h2 D S (Bf G h h2):=
 d.mono (fun _=>Bf.trans a b) (Bf.lt l (bN a b))
theorem Ae6.frame{D:Nat}{S:Jp}(a:Ae6 h D V M qc qh cs hs ms S F G)(n:h.next<=h'.next)(e:∀i,G i->h'.get i=h.get i):Ae6 h' D V M qc qh cs hs ms S F G:=
 ⟨by rw[e _ a.sub.2.1];exact a.Dr,by rw[e _ a.sub.2.2.1];exact a.map,a.marks,a.Jj.frame fun y=>e _ (a.sub.2.2.2.1 y),a.Aq9.frame fun y=>e _ (a.sub.2.2.2.2 y),a.dev.frame n fun i b=>e i (a.sub.1 i b),a.sub,a.apart⟩
theorem F0.frame{D:Nat}{S:Jp}(d:F0 h D S G)(n:h.next<=h'.next)(e:∀i,G i->h'.get i=h.get i):F0 h' D S G:=by
 obtain⟨V,M,qc,qh,cs,hs,ms,F,a⟩:=d.Ow;exact⟨fun i b=>aK (d.lt i b) n,d.wf,V,M,qc,qh,cs,hs,ms,F,a.frame n e⟩
theorem F0.chg{D:Nat}{S:Jp}{T:Nat->Prop}(d:F0 h D S G)(c:Ar T h h')(n:∀i,G i->¬T i):F0 h' D S G:=d.frame c.next fun i a=>c.get i (d.lt i a) (n i a)
theorem F0.ext{D:Nat}{S:Jp}(d:F0 h D S G)(c:Ext h h'):F0 h' D S G:=d.chg c fun _ _=>id
theorem Ae6.put{D:Nat}{S:Jp}(a:Ae6 h D V M qc qh cs hs ms S F G)(hb:HB h)(d:Hc h' V dv (Bf F h h'))(c:Ar F h h'):
 Ae6 h' D V M qc qh cs hs ms { S with dv:=dv } (Bf F h h') (Bf G h h'):=by
 have lq:∀{s q n l},Cj h s q 32 68 n l->0<n->q<h.next:=fun r y=>hb _ _ (r.block y)
 have e:∀{i},¬F i->i<h.next->¬Bf F h h' i:=fun y l z=>by
  rcases z with z|z
  ·exact y z
  ·omega
 refine⟨c.at hb a.Dr a.apart.1,c.at hb a.map a.apart.2.1,a.marks,a.Jj.frame fun y=>c.get _ (lq a.Jj y) (a.apart.2.2.1 y),a.Aq9.frame fun y=>c.get _ (lq a.Aq9 y) (a.apart.2.2.2.1 y),d,⟨fun i b=>?_,.inl a.sub.2.1,.inl a.sub.2.2.1,fun y=>.inl (a.sub.2.2.2.1 y),fun y=>.inl (a.sub.2.2.2.2 y)⟩,⟨e a.apart.1 (hb _ _ a.Dr),e a.apart.2.1 (hb _ _ a.map),fun y=>e (a.apart.2.2.1 y) (lq a.Jj y),fun y=>e (a.apart.2.2.2.1 y) (lq a.Aq9 y),a.apart.2.2.2.2⟩⟩;rcases b with b|b
 ·exact .inl (a.sub.1 i b)
 ·exact .inr b
theorem F0.put{D:Nat}{S:Jp}(s:F0 h D S G)(a:Ae6 h D V M qc qh cs hs ms S F G)(hb:HB h)(d:Hc h' V dv (Bf F h h'))(c:Ar F h h'):
 F0 h' D { S with dv:=dv } (Bf G h h')/\Ar G h h':=
 ⟨⟨Bf.lt s.lt c.next,⟨s.wf.ev,s.wf.wf,s.wf.hwf⟩,V,M,qc,qh,cs,hs,ms,_,a.put hb d c⟩,c.mono a.sub.1⟩
theorem Ae6.Bi3{D:Nat}{S:Jp}(a:Ae6 h D V M qc qh cs hs ms S F G)(hm:Aku ms'):
 Ae6 (h.put M (.map ms')) D V M qc qh cs hs ms' S F G:=by
 refine⟨?_,Ae _ _ _,hm,a.Jj.frame fun y=>Af _ ?_,a.Aq9.frame fun y=>Af _ ?_,a.dev.frame (aE _) fun i b=>Af _ fun y=>?_,a.sub,a.apart⟩
 ·rw[Af _ (Bb a.map a.Dr (by simp))];exact a.Dr
 ·exact Bb a.map (a.Jj.block y) (by simp)
 ·exact Bb a.map (a.Aq9.block y) (by simp)
 ·rw[<-y]at b;exact a.apart.2.1 b
theorem F0.Bi3{D:Nat}{S:Jp}(s:F0 h D S G)(a:Ae6 h D V M qc qh cs hs ms S F G)(hb:HB h)(hm:Aku ms'):
 F0 (h.put M (.map ms')) D S G/\Ar G h (h.put M (.map ms'))/\HB (h.put M (.map ms')):=by
 have b:=hb _ _ a.map;exact⟨⟨s.lt,s.wf,V,M,qc,qh,cs,hs,ms',F,a.Bi3 hm⟩,(Ar.refl h).Aq (.inl a.sub.2.2.1) b _,hb.put b _⟩
theorem A0h{D:Nat}{S:Jp}(a:Ae6 h D V M qc qh cs hs ms S F G):Ek K (.ptr D 0) h=some (.ptr V 0,h):=by simp only[Ek,Ab,Cs a.Dr rfl]
def Bm8(disp:Nat->Option FT)(K d:Nat)(S:Jp):Prop:=∀(h:Aa) (D:Nat) (G:Nat->Prop),F0 h D S G->HB h->Ok (Ag TT disp K d false 129 [.ptr D 0] h) fun v h'=>F0 h' D S.due (Bf G h h')/\Ar G h h'/\HB h'
variable {S:Jp}
noncomputable def Jp.begin(S:Jp)(i:Int):Jp:=if S.dv.has i=true then S.due else S
def A20(disp:Nat->Option FT)(K:Nat)(S:Jp):Prop:=∀d,12<=d->Bm8 disp K d S
theorem Ac4(H:Bv disp){d:Nat}(hd:13<=d){D:Nat}(f:A20 disp K S)(s:F0 h D S G)(hb:HB h)(i:Int):
 Ok (Ag TT disp K d false 138 [.ptr D 0,I i] h) fun v h'=>F0 h' D (S.begin i) (Bf G h h')/\Ar G h h'/\HB h':=by
 obtain⟨e,rfl⟩:∃k,d=k+1:=⟨d-1,by omega⟩;rw[Ank H (by omega)];obtain⟨V,M,qc,qh,cs,m,ms,F,a⟩:=s.Ow;obtain⟨zl,z,q,b,_⟩:=a.dev.Ow;have fin:Ok (some (.tuple [],h)) fun(_:EV) h'=>F0 h' D S (Bf G h h')/\Ar G h h'/\HB h':=.ret ⟨s.grow s.lt (aE _),Ar.refl _,hb⟩
 unfold Jp.begin;simp only[Aji,I,Ac,Ab];by_cases h0:0<=i
 ·have j:=At5 (K:=K) b
  simp only[I]at j;simp only[h0,aB,Ab,Cs a.Dr rfl,j,Ac,To];by_cases h1:i<S.dv.n
  ·have g:S.dv.has i=true:=aP ⟨h0,h1⟩
   simp only[h1,aB,Ab];rw[g,aH rfl];refine(f e (by omega) h D G s hb).Ap ?_;intro v h' p;exact .ret p
  ·have g:S.dv.has i=false:=aO fun y=>h1 y.2
   simp only[h1,aA,Ab];rw[g,aF (by simp)];exact fin
 ·have g:S.dv.has i=false:=aO fun y=>h0 y.1
  simp only[h0,aA,Ab,To];rw[g,aF (by simp)];exact fin
noncomputable def Jp.append(S:Jp)(i:Int)(x:List EV):Jp × Int × Int:=({ S.begin i with dv:=((S.begin i).dv.append i x).1 },((S.begin i).dv.append i x).2)
theorem Aqh(H:Bv disp)(hK:1000<K){d:Nat}(hd:14<=d){D:Nat}(u:A20 disp K S)(s:F0 h D S G)(hb:HB h)(i:Int)(P:x.length=64)(hu:U8 x):
 Ok (Ag TT disp K d false 187 [.ptr D 0,I i,.agg x] h) fun v h'=>v=.tuple [I (S.append i x).2.1,I (S.append i x).2.2]/\F0 h' D (S.append i x).1 (Bf G h h')/\Ar G h h'/\HB h':=by
 obtain⟨e,rfl⟩:∃k,d=k+1:=⟨d-1,by omega⟩;rw[Aln H (by omega)];simp only[Afu,Ab];have g:Ext h (h.new (.cells x 30)):=Ar.new _ _;have A:(h.new (.cells x 30)).get h.next=some (.cells x 30):=Ad _ _
 have m:HB (h.new (.cells x 30)):=hb.new _;have s1:=s.ext g;have n1:(h.new (.cells x 30)).next=h.next+1:=rfl
 generalize h.new (.cells x 30)=h1 at g A m s1 n1⊢;refine(Ac4 (K:=K) H (by omega) u s1 m i).Ap ?_;rintro _ h2 ⟨s2,c2,b⟩;have nx:¬G h.next:=fun y=>bO _ (s.lt _ y)
 have A:=c2.at m A nx;have o:Ar G h h2:=(Ext.to g).trans c2;have s2:F0 h2 D (S.begin i) (Bf G h1 h2):=s2;unfold Jp.append;generalize S.begin i=T at s2⊢;obtain⟨V,M,qc,qh,cs,J,ms,F,a⟩:=s2.Ow;have lD:=b _ _ a.Dr;have l5:=b _ _ A;simp only[Ab,Au,Cm lD,Cs a.Dr rfl,Cm l5,Cw A rfl,Ak P];refine Ok.bC (S:=F) (A0b (K:=K) a.dev.lift (Dg b) hK i P hu) (fun _ _ p=>p.2.2.1) ?_;rintro _ h3 h4 s' ⟨rfl,d3,_,L⟩ sm c4 _;have t:=sm.hb L;have d4:Hc h4 V (T.dv.append i x).1 (Bf F h2 h4):=by
  have:=d3.frame (h':=h4) (by rw[sm.next];exact aE _) fun j _=>sm.get j
  refine this.mono (fun j hj=>?_) (Bf.lt a.dev.lt c4.next);rcases hj with y|y
  ·exact .inl y
  ·exact .inr ⟨y.1,by rw[sm.next];exact y.2⟩
 have B:=a.put b d4 c4;obtain⟨C,f⟩:=s2.put a b d4 c4;have E:Ar G h h4:=by
  refine o.then f fun j hj hl=>?_
  rcases hj with y|y
  ·exact y
  ·have:=g.next;omega
 have C:F0 h4 D { T with dv:=(T.dv.append i x).1 } (Bf G h h4):=C.mono (fun j hj=>by
  rcases hj with(y|y)|y
  ·exact .inl y
  ·have:=g.next;have:=f.next;exact .inr ⟨by omega,by omega⟩
  ·have:=o.next;exact .inr ⟨by omega,y.2⟩) (Bf.lt s.lt E.next)
 simp only[Ab,I,Ac];by_cases Q:(T.dv.append i x).2.2=0
 ·simp only[Q,aB,Ab,Cs B.Dr rfl]
  rw[Ax (l:=[I i,I (T.dv.append i x).2.1]) rfl];obtain⟨ms',e1,O⟩:=A05 B.map B.marks i (T.dv.append i x).2.1;unfold kp at e1;rw[e1,As];simp only[Ry,dr];obtain⟨V',M',af,ag,ah,U,W,F',a5⟩:=C.Ow;have X:=t _ _ B.map;have a6:=B.Bi3 O;have gM:Bf G h h4 M:=by
   rcases a.sub.2.2.1 with y|y
   ·exact .inl y
   ·have:=g.next;have:=f.next;exact .inr ⟨by omega,by omega⟩
  have Y:Ar (Bf G h h4) h4 (h4.put M (.map ms')):=(Ar.refl h4).Aq (.inl gM) X _;refine .ret ⟨rfl,⟨Bf.lt s.lt (E.grow Y).next,C.wf,V,M,qc,qh,cs,J,ms',_,a6.mono fun j hj=>?_⟩,E.grow Y,t.put X _⟩;show Bf G h h4 j;rcases hj with(y|y)|y
  ·exact .inl y
  ·have:=g.next;have:=f.next;exact .inr ⟨by omega,by omega⟩
  ·have:=o.next;exact .inr ⟨by omega,y.2⟩
 ·simp only[Q,aA,Ab,Ry]
  exact .ret ⟨rfl,C,E,t⟩
noncomputable def Jp.read(S:Jp)(i off:Int):Jp × List EV × Int:=({ S.begin i with dv:=(S.begin i).dv.begin i },(S.begin i).dv.read i off)
theorem A6j(H:Bv disp){d:Nat}(hd:14<=d){D:Nat}(o:A20 disp K S)(s:F0 h D S G)(hb:HB h)(i off:Int):
 Ok (Ag TT disp K d false 106 [.ptr D 0,I i,I off] h) fun v h'=>v=.tuple [.agg (S.read i off).2.1,I (S.read i off).2.2]/\(S.read i off).2.1.length=64/\F0 h' D (S.read i off).1 (Bf G h h')/\Ar G h h'/\HB h':=by
 obtain⟨e,rfl⟩:∃k,d=k+1:=⟨d-1,by omega⟩;rw[Apq H (by omega)];simp only[Alb,Ab];have p:Ext h (h.new (.cells (List.replicate 64 (.int .u8 0)) 30)):=Ar.new _ _;have g:(h.new (.cells (List.replicate 64 (.int .u8 0)) 30)).get h.next=some (.cells T6 30):=Ad _ _
 have b:HB (h.new (.cells (List.replicate 64 (.int .u8 0)) 30)):=hb.new _;have s1:=s.ext p;generalize h.new (.cells (List.replicate 64 (.int .u8 0)) 30)=h1 at p g b s1⊢;refine(Ac4 (K:=K) H (by omega) o s1 b i).Ap ?_;rintro _ h2 ⟨s2,c2,f⟩;have nx:¬G h.next:=fun y=>bO _ (s.lt _ y)
 have g:=c2.at b g nx;have O:h.next<h1.next:=by
  have:=f _ _ g;rcases cU h.next h1.next with y|y
  ·exact y
  ·exact absurd (b _ _ (show h1.get h.next=some (.cells T6 30) by assumption)) (by omega)
 have t:Ar G h h2:=(Ext.to p).trans c2;unfold Jp.read;generalize S.begin i=T at s2⊢;obtain⟨V,M,qc,qh,cs,E,ms,F,a⟩:=s2.Ow;simp only[Ab,Cs a.Dr rfl];refine(A5b (K:=K) a.dev f i off).Ap ?_;rintro _ B ⟨rfl,hlen,d3,c3,u⟩;obtain⟨J,m⟩:=s2.put a f d3 c3;have C:¬Bf G h1 h2 h.next:=by
  rintro(y|y)
  ·exact nx y
  ·omega
 have g:=m.at f g C;have A:=u _ _ g;simp only[Ab];refine Ok.st (T.dv.read i off).1 g rfl (by rw[show EV.cells (.agg (T.dv.read i off).1)=(T.dv.read i off).1 from rfl,Bc,hlen]) (Bk (by rw[Kn];exact hlen.symm)) ?_;rw[Ff (Ae _ _ _) Awi.1 Awi.2 hlen];have L:Ar G h B:=by
  refine t.then m fun j hj P=>?_
  rcases hj with y|y
  ·exact y
  ·have:=p.next;omega
 have c4:Ar G h (B.put h.next (.cells (T.dv.read i off).1 30)):=L.Aq (.inr (aE _)) A _;refine .ret ⟨rfl,hlen,?_,c4,u.put A _⟩;refine F0.mono (J.frame (h':=B.put h.next (.cells (T.dv.read i off).1 30)) (aE _) fun j hj=>Af _ fun y=>?_) (fun j hj=>?_) (Bf.lt s.lt c4.next)
 ·subst y
  rcases hj with y|y
  ·exact C y
  ·have:=c2.next;omega
 ·show Bf G h B j
  rcases hj with(y|y)|y
  ·exact .inl y
  ·have:=p.next;have:=m.next;exact .inr ⟨by omega,by omega⟩
  ·have:=t.next;exact .inr ⟨by omega,y.2⟩
noncomputable def Jp.flush(S:Jp):Jp × Int:=({ S.due with dv:=S.due.dv.flush.1 },S.due.dv.flush.2)
theorem At0(H:Bv disp)(m:1000<K){d:Nat}(hd:14<=d){D:Nat}(b:A20 disp K S)(s:F0 h D S G)(hb:HB h):
 Ok (Ag TT disp K d false 98 [.ptr D 0] h) fun v h'=>v=I S.flush.2/\F0 h' D S.flush.1 (Bf G h h')/\Ar G h h'/\HB h':=by
 obtain⟨e,rfl⟩:∃k,d=k+1:=⟨d-1,by omega⟩;rw[Aoh H (by omega)];simp only[Ajd,dr];refine(b e (by omega) h D G s hb).Ap ?_;rintro _ h2 ⟨s2,c2,f⟩;unfold Jp.flush;generalize S.due=T at s2⊢;obtain⟨V,M,qc,qh,cs,o,ms,F,a⟩:=s2.Ow;simp only[Ab,Cs a.Dr rfl];refine(A3i (K:=K) a.dev f m).Ap ?_;rintro _ t ⟨rfl,d3,c3,j⟩;obtain⟨p,g⟩:=s2.put a f d3 c3;exact .ret ⟨rfl,p.Bko c2.next g.next s.lt,c2.grow g,j⟩
noncomputable def Jp.finish(S:Jp)(i:Int):Jp × Int:=({ S.begin i with dv:=((S.begin i).dv.finish i).1 },((S.begin i).dv.finish i).2)
theorem Ap3(H:Bv disp){d:Nat}(hd:14<=d){D:Nat}(b:A20 disp K S)(s:F0 h D S G)(hb:HB h)(i:Int):
 Ok (Ag TT disp K d false 189 [.ptr D 0,I i] h) fun v h'=>v=I (S.finish i).2/\F0 h' D (S.finish i).1 (Bf G h h')/\Ar G h h'/\HB h':=by
 obtain⟨e,rfl⟩:∃k,d=k+1:=⟨d-1,by omega⟩;rw[Ama H (by omega)];simp only[Ag5,dr];refine(Ac4 (K:=K) H (by omega) b s hb i).Ap ?_;rintro _ h2 ⟨s2,c2,f⟩;unfold Jp.finish;generalize S.begin i=T at s2⊢;obtain⟨V,M,qc,qh,cs,m,ms,F,a⟩:=s2.Ow;simp only[Ab,Cs a.Dr rfl];refine(Azp (K:=K) a.dev f i).Ap ?_;rintro _ p ⟨rfl,d3,c3,j⟩;obtain⟨o,g⟩:=s2.put a f d3 c3;exact .ret ⟨rfl,o.Bko c2.next g.next s.lt,c2.grow g,j⟩
theorem A53 {D:Nat}(z:Int):∀(m i:Nat) (h:Aa),S.dv.size-i<m->F0 h D S G->HB h ->
 Ok (Jh K m (.ptr D 0) (I z) (I i) h) fun v h'=>F0 h' D S G/\Ar G h h'/\HB h':=by
 intro m;induction m with
 | zero=>intro i h hm;omega
 | succ m p=>
  intro i h hm s hb;obtain⟨V,M,qc,qh,cs,t,ms,F,a⟩:=s.Ow;obtain⟨zl,A,q,b,_⟩:=a.dev.Ow;have e:=Au9 (K:=K) b;have u:S.dv.size<=64:=a.dev.wf.size;simp only[I]at e;simp only[Jh,Ab,Cs a.Dr rfl,e,I,Ac];by_cases f:(i:Int)<S.dv.size
  ·simp only[f,aB,Ab,Aa7,Cs a.Dr rfl]
   rw[Ax (l:=[I z,I i]) rfl];obtain⟨ms',e1,g⟩:=A05 a.map a.marks z i;unfold kp at e1;rw[e1,As];simp only[Z9,I,Ac];rw[Cq];obtain⟨s2,c2,j⟩:=s.Bi3 a hb g;refine(p (i+1) _ (by omega) s2 j).mono ?_;rintro v h' ⟨y,c3,o⟩;exact⟨y,c2.trans c3,o⟩
  ·simp only[f,aA,Ab]
   exact .ret ⟨s,Ar.refl _,hb⟩
end Go.Ev
