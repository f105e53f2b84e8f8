import Derived.Test.YtokpnommcenoaaaGreatXa
set_option linter.all false
namespace Go.Ev
open Go.Proofs
set_option maxRecDepth 100000
variable {F G:Nat->Prop}{h h' h1 h2:Ab}{K M V i n q' qc qh zl:Nat}{q:Nat->Nat}{op cnt:Int}{down:Bool}{Z:Zn}{k:EV->Ab->DX->R}{v cs hs:EV}{x:List EV}{ms ms':List (EV × EV)}{disp:Nat->Option FT}
section
def Bi(F:Nat->Prop)(h h':Ab):Nat->Prop:=fun i=>F i\/(h.next<=i/\i<h'.next)
theorem Au.grow(a:Au F h h1)(b:Au (Bi F h h1) h1 h2):Au F h h2:=
 a.then b fun i e f=>by
  rcases e with e|e
  ·exact e
  ·omega
theorem Bi.trans(a:h.next<=h1.next)(b:h1.next<=h2.next)(g:Bi (Bi F h h1) h1 h2 i):Bi F h h2 i:=by
 rcases g with(g|g)|g
 ·exact .inl g
 ·exact .inr ⟨g.1,by omega⟩
 ·exact .inr ⟨by omega,g.2⟩
theorem Bi.le(b:h1.next<=h2.next)(g:Bi F h h1 i):Bi F h h2 i:=by
 rcases g with g|g
 ·exact .inl g
 ·exact .inr ⟨g.1,by omega⟩
structure Dv where
 n:Nat
 size:Nat
 op:Int
 cnt:Int
 down:Bool
 zs:Nat->Zn
def Bk(l:List Nat):List EV:=l.map fun(b:Nat)=>EV.int .u8 (Int.ofNat b)
def U8(x:List EV):Prop:=∃l:List Nat,(∀b∈l,b<256)/\x=Bk l
theorem U8.zs:U8 Va:=⟨List.replicate 64 0,fun b hb=>by rw[bc hb];decide,by unfold Bk Va;rw[fT];rfl⟩
structure Zn.Wf(Z:Zn)(size:Nat):Prop where
 u8:∀x∈Z.l,U8 x
 st:Z.st<=4
 safe:Z.safe<=Z.l.length
 len:Z.l.length<=size
 room:Z.st<2->Z.l.length<size
structure Dv.Wf(D:Dv):Prop where
 size:D.size<=64
 n:D.n<=512
 zs:∀i,i<D.n->(D.zs i).Wf D.size
def A3y(V zl n:Nat)(z q:Nat->Nat)(zs:Nat->Zn):Nat->Prop:=fun i=>i=V\/i=zl\/∃d,d<n/\(i=z d\/((zs d).l≠[]/\i=q d))
structure G6(h:Ab)(V:Nat)(D:Dv)(F:Nat->Prop):Prop where
 wf:D.Wf
 lt:∀i,F i->i<h.next
 Mn:∃zl z q,Lt h V zl D.n z q D.size D.op D.cnt D.down D.zs/\∀i,A3y V zl D.n z q D.zs i->F i
theorem G6.mono{D:Dv}(d:G6 h V D F)(s:∀i,F i->G i)(l:∀i,G i->i<h.next):G6 h V D G:=by
 obtain⟨zl,z,q,a,b⟩:=d.Mn;exact⟨d.wf,l,zl,z,q,a,fun i e=>s i (b i e)⟩
theorem Bi.lt(l:∀i,F i->i<h.next)(n:h.next<=h'.next):∀i,Bi F h h' i->i<h'.next:=fun i a=>by
 rcases a with a|a
 ·have:=l i a;omega
 ·exact a.2
theorem G6.grow{D:Dv}(d:G6 h' V D F)(l:∀i,F i->i<h.next)(n:h.next<=h'.next):G6 h' V D (Bi F h h'):=
 d.mono (fun _=>.inl) (Bi.lt l n)
theorem Atn {l:List (List EV)}:l≠[]↔0<l.length:=by rw[List.length_pos_iff]
theorem Lt.frame{z:Nat->Nat}{size:Int}{Zs:Nat->Zn}(d:Lt h V zl n z q size op cnt down Zs)(e:∀i,A3y V zl n z q Zs i->h'.get i=h.get i):Lt h' V zl n z q size op cnt down Zs:=by
 refine⟨d.pos,by rw[e _ (.inl rfl)];exact d.dev,by rw[e _ (.inr (.inl rfl))];exact d.row,fun i f=>?_,d.A76,d.Bbv⟩;obtain⟨s,a,b⟩:=(d.An i f).An;exact⟨⟨s,by rw[e _ (.inr (.inr ⟨i,f,.inl rfl⟩))];exact a,b.frame fun g=>e _ (.inr (.inr ⟨i,f,.inr ⟨Atn.2 g,rfl⟩⟩))⟩,(d.An i f).wf⟩
theorem G6.frame{D:Dv}(d:G6 h V D F)(n:h.next<=h'.next)(e:∀i,F i->h'.get i=h.get i):G6 h' V D F:=by
 obtain⟨zl,z,q,a,b⟩:=d.Mn;exact⟨d.wf,fun i f=>aN (d.lt i f) n,zl,z,q,a.frame fun i f=>e i (b i f),b⟩
theorem G6.chg{D:Dv}{S:Nat->Prop}(d:G6 h V D F)(c:Au S h h')(n:∀i,F i->¬S i):G6 h' V D F:=
 d.frame c.next fun i a=>c.get i (d.lt i a) (n i a)
theorem G6.ext{D:Dv}(d:G6 h V D F)(c:Ext h h'):G6 h' V D F:=d.chg c fun _ _=>id
theorem Lt.Bee{z:Nat->Nat}{size:Int}{Zs:Nat->Zn}(d:Lt h V zl n z q size op cnt down Zs)(f:Int)(e:Bool):
 Lt (h.put V (.cells [.slice zl 0 n n true,I size,I op,I f,.bool e] 152)) V zl n z q size op f e Zs:=by
 refine⟨d.pos,Ae _ _ _,?_,fun i g=>?_,d.A76,d.Bbv⟩
 ·rw[Af _ (Ba d.dev d.row (by simp))];exact d.row
 ·obtain⟨s,a,b⟩:=(d.An i g).An
  refine⟨⟨s,?_,b.frame fun j=>Af _ (Ba d.dev (b.block j) (by simp))⟩,(d.An i g).wf⟩;rw[Af _ (Ba d.dev a (by simp))];exact a
def Aju(Zs:Nat->Zn)(d:Nat)(Z:Zn):Nat->Zn:=fun e=>if e=d then Z else Zs e
def A3r(q:Nat->Nat)(d x:Nat):Nat->Nat:=fun e=>if e=d then x else q e
theorem Lt.Be8{z:Nat->Nat}{size:Int}{Zs:Nat->Zn}(d:Lt h V zl n z q size op cnt down Zs)(hb:HB h)(E:i<n)
 (O:E2 h' (z i) q' size Z) (c:Au (fun j=>j=z i\/((Zs i).l≠[]/\j=q i)) h h') (J:Z.l≠[]->h.next<=q'\/(q'=q i/\(Zs i).l≠[])) :
 Lt h' V zl n z (A3r q i q') size op cnt down (Aju Zs i Z):=by
 obtain⟨T,H,bi⟩:=(d.An i E).An;have P:∀x o,h.get x=some o->(∀l,o≠.vec l 30 64)->¬((Zs i).l≠[]/\x=q i):=by
  rintro x o u p ⟨t,rfl⟩;rw[bi.block (Atn.1 t)]at u;cases u;exact p _ rfl
 have g:∀x o,h.get x=some o->x≠z i->(∀l,o≠.vec l 30 64)->h'.get x=some o:=fun x o u Q p=>by
  refine c.at hb u ?_;rintro(y|y)
  ·exact Q y
  ·exact P x o u p y
 refine⟨d.pos,g _ _ d.dev (Ba d.dev H (by simp)) (by intros;simp),g _ _ d.row (Ba d.row H (by simp)) (by intros;simp),fun j hj=>?_,d.A76,?_⟩
 ·by_cases f:j=i
  ·subst f;simp only[A3r,Aju,bI];exact O
  ·simp only[A3r,Aju,f,aY]
   obtain⟨s,a,b⟩:=(d.An j hj).An;refine⟨⟨s,g _ _ a (fun e=>f (d.A76 j i hj E e)) (by intros;simp),b.frame fun t=>?_⟩,(d.An j hj).wf⟩;have L:=b.block t;refine c.get _ (hb _ _ L) ?_;rintro(y|⟨A,B⟩)
   ·exact Ba L H (by simp) y
   ·exact f (d.Bbv j i hj E (Atn.2 t) A B)
 ·intro j k hj C
  have lq:∀j,j<n->(Zs j).l≠[]->q j<h.next:=fun j hj t=>by
   obtain⟨s,a,b⟩:=(d.An j hj).An;exact hb _ _ (b.block (Atn.1 t))
  by_cases f:j=i<;>by_cases m:k=i
  ·intros;omega
  ·subst f;simp only[A3r,Aju,m,bI,aY]
   intro a b e;rcases J a with y|⟨A,B⟩
   ·have:=lq k C b;omega
   ·exact absurd (d.Bbv j k hj C B b (by rw[<-A];exact e)).symm m
  ·subst m;simp only[A3r,Aju,f,bI,aY]
   intro a b e;rcases J b with y|⟨A,B⟩
   ·have:=lq j hj a;omega
   ·exact absurd (d.Bbv j k hj C a B (by rw[<-A];exact e)) f
  ·simp only[A3r,Aju,f,m,aY]
   exact d.Bbv j k hj C
def Dv.has(D:Dv)(i:Int):Bool:=decide (0<=i/\i<D.n)
def Dv.Et(D:Dv)(i:Int):Int:=if D.down=true then 34 else if D.has i=false then 13 else 0
noncomputable def Dv.tick(D:Dv):Dv:={ D with cnt:=Cx .i64 (D.cnt+1) }
noncomputable def Dv.begin(D:Dv)(i:Int):Dv:=if D.Et i=0 then D.tick else D
def Dv.set(D:Dv)(i:Nat)(Z:Zn):Dv:={ D with zs:=Aju D.zs i Z }
section
variable{z:Nat->Nat}{size:Int}{Zs:Nat->Zn}(d:Lt h V zl n z q size op cnt down Zs)
include d
theorem Lt.list(k:EV->R):Fy (.ptr V 0) h k=k (.slice zl 0 n n true):=by rw[Cz d.dev rfl];rfl
theorem Lt.Bje(a:i<n)(k:EV->R):Aal 1 (.slice zl 0 n n true) (I i) (fun v=>Fy v h k)=k (.ptr (z i) 0):=by
 unfold I;rw[N5 a,Cz d.row rfl,bF,bk,bA,cQ a];rfl
theorem Ban(i:Int):Gi K (.ptr V 0) (I i) h=some (.bool (decide (0<=i/\i<n)),h):=by
 simp only[Gi,I,Ac,Aa];by_cases h0:0<=i
 ·simp only[h0,aB,Aa,Ac,d.list,V9,gF]
 ·simp only[h0,aA,Aa,V9,gE]
end
section
variable{D:Dv}(d:G6 h V D F)(hb:HB h)
include d
theorem Agl(i:Int):Gi K (.ptr V 0) (I i) h=some (.bool (D.has i),h):=by
 obtain⟨w,wl,zl,z,q,a,b⟩:=d;exact Ban a i
theorem A8d(i:Int):Jv K (.ptr V 0) (I i) h=some (I (if D.has i=true then(D.zs i.toNat).st else 4),h):=by
 simp only[Jv,Agl d,Aa];obtain⟨w,wl,zl,z,q,a,b⟩:=d;cases e:D.has i with
 | false=>simp only[Aa,I,aW,aY]
 | true=>
  have:=cO e;obtain⟨j,rfl⟩:∃j:Nat,i=j:=⟨i.toNat,by omega⟩;have hj:j<D.n:=by omega
  simp only[Aa,Aci,a.list,a.Bje hj,Ajr (a.An j hj),bI];rfl
theorem Bcd(i:Int):Qe K (.ptr V 0) (I i) h=some (I (if D.has i=true then(D.zs i.toNat).l.length else 0),h):=by
 simp only[Qe,Agl d,Aa];obtain⟨w,wl,zl,z,q,a,b⟩:=d;cases e:D.has i with
 | false=>simp only[Aa,I,aW,aY]
 | true=>
  have:=cO e;obtain⟨j,rfl⟩:∃j:Nat,i=j:=⟨i.toNat,by omega⟩;have hj:j<D.n:=by omega
  simp only[Aa,Af9,a.list,a.Bje hj,Bac (a.An j hj),bI];rfl
include hb
theorem Ae4(i:Int):Ok (H0 K (.ptr V 0) (I i) h) fun v h'=>v=I (D.Et i)/\G6 h' V (D.begin i) F/\Au F h h'/\HB h'/\h'.next=h.next:=by
 have f:=Agl (K:=K) d i;obtain⟨w,wl,zl,z,q,a,b⟩:=d;unfold Dv.begin Dv.Et;simp only[H0,Aa,Cz a.dev rfl];cases hd:D.down with
 | true=>
  simp only[Aa,bI,show((34:Int)=0)=False by simp,aY];exact .ret ⟨rfl,⟨w,wl,zl,z,q,a,b⟩,Au.refl _,hb,rfl⟩
 | false=>
  simp only[Aa,f,aW,aY];cases g:D.has i with
  | false=>
   simp only[Aa,bI,show((13:Int)=0)=False by simp,aY];exact .ret ⟨rfl,⟨w,wl,zl,z,q,a,b⟩,Au.refl _,hb,rfl⟩
  | true=>
   simp only[Aa,fW,aY,bI,Ab8,Cz a.dev rfl,I,Ac];have e:=hb _ _ a.dev;refine Ok.st1 a.dev rfl rfl (by show 3<5;decide) ?_;refine .ret ⟨rfl,⟨⟨w.size,w.n,w.zs⟩,wl,zl,z,q,a.Bee (Cx .i64 (D.cnt+1)) D.down,b⟩,(Au.refl h).Ao (.inl (b _ (.inl rfl))) e _,hb.put e _,rfl⟩
end
end
variable {D dv:Dv}
theorem Aq8 {b:Nat}{s:DX}{call:Ab->R}(hb:Aby b s=true)(a:loose b s.nw = [])(e:call h.lift=some (v,h.lift)):Js i b s h call k=k v h (s.big i):=by
 have f:H4 b s h=h.lift:=by unfold H4;rw[a];rfl
 show Ax (Aby b s) (Ev.Am (call (H4 b s h)) fun v h'=>L9 i b s h h' fun s h=>k v h s) none=_;rw[hb,Aj,f,e];show L9 i b s h h.lift (fun s h=>k v h s)=_;unfold L9;rw[aO (show h.next<=h.lift.mw from aD _),Aj,a];rfl
theorem Afk {b:Nat}{s:DX}{call:Ab->R}(a:call h.lift=some (v,h.lift))(hb:Aby b s=true:=by kernel_rfl)(e:loose b s.nw = []:=by kernel_rfl):Js i b s h call k=k v h (s.big i):=Aq8 hb e a
theorem Lt.lift{z:Nat->Nat}{size:Int}{Zs:Nat->Zn}(d:Lt h V zl n z q size op cnt down Zs):Lt h.lift V zl n z q size op cnt down Zs:=d.frame fun i _=>Br h i
theorem G6.lift(d:G6 h V D F):G6 h.lift V D F:=d.frame (aD _) fun i _=>Br h i
def Aen(Zs:Nat->Zn)(n:Nat):Nat:=((List.range n).filter fun i=>(Zs i).st=1).length
theorem Bdy(Zs:Nat->Zn)(n:Nat):Aen Zs (n+1)=Aen Zs n+(if(Zs n).st=1 then 1 else 0):=by
 unfold Aen;rw[dJ,eI,aG];congr 1;by_cases a:(Zs n).st=1<;>simp[a]
theorem Bnm(Zs:Nat->Zn)(n:Nat):Aen Zs n<=n:=by
 unfold Aen;have:=eJ (fun i=>decide ((Zs i).st=1)) (List.range n);simpa using this
theorem Baa{z:Nat->Nat}{size:Int}{Zs:Nat->Zn}(d:Lt h V zl n z q size op cnt down Zs)(j:n<=512):∀(m i:Nat),n-i<m->i<=n ->
 Ip K m (I (Aen Zs i)) (.slice zl 0 n n true) (I n) (I i) h=some (I (Aen Zs n),h):=by
 intro m;induction m with
 | zero=>intro i hm;omega
 | succ m g=>
  intro i hm o;simp only[Ip,I,Ac,Aa];by_cases b:(i:Int)<n
  ·have e:i<n:=by omega
   have f:=d.Bje e;simp only[I]at f;have hle:=Bnm Zs i;simp only[b,aB,Aa,Zj,f,Ajr (d.An i e),I,Ac];have a:=g (i+1) (by omega) (by omega);rw[Bdy]at a;by_cases h1:(Zs i).st=1
   ·rw[show decide (((Zs i).st:Int)=1)=true by simp[h1]]
    rw[aQ h1]at a;simp only[Aa,Ac,Q0];rw[Cg,Cg];exact a
   ·rw[show decide (((Zs i).st:Int)=1)=false by simp;omega]
    rw[aM h1]at a;simp only[Aa,Ac,Q0];rw[Cg];exact a
  ·have:i=n:=by omega
   subst this;simp only[b,aA,Aa,Z0]
theorem Bj5{z:Nat->Nat}{size:Int}{Zs:Nat->Zn}(d:Lt h V zl n z q size op cnt down Zs)(a:n<=512)(b:1000<K):
 Pz K (.ptr V 0) h=some (I (Aen Zs n),h):=by
 simp only[Pz,Aa,d.list];exact Baa d a K 0 (by omega) (cU _)
noncomputable def Dv.append(D:Dv)(i:Int)(x:List EV):Dv × Int × Int:=
 if D.Et i≠0 then(D,0,D.Et i)else
 if(D.zs i.toNat).st=0/\D.op<=Aen D.zs D.n then(D.tick,0,33)else
 if 2<=(D.zs i.toNat).st then(D.tick,0,if(D.zs i.toNat).st=2 then 17 else Lm (D.zs i.toNat).st)else
 (D.tick.set i.toNat ((D.zs i.toNat).app D.size x),(D.zs i.toNat).l.length,0)
theorem Zn.Wf.app{size:Nat}(w:Z.Wf size)(hs:Z.st<2)(b:U8 x):(Z.app size x).Wf size:=by
 have:=w.room hs;have:=w.safe;refine⟨fun y a=>?_,?_,?_,?_,?_⟩<;>try simp only[Zn.app,aG,List.length_singleton]
 ·rcases bP.1 a with a|a
  ·exact w.u8 y a
  ·rw[aP.1 a];exact b
 ·split<;>omega
 ·omega
 ·omega
 ·split<;>omega
theorem Dv.Wf.set(w:D.Wf)(z:Z.Wf D.size):(D.set i Z).Wf:=by
 refine⟨w.size,w.n,fun j hj=>?_⟩;show(Aju D.zs i Z j).Wf D.size;unfold Aju;split
 ·exact z
 ·exact w.zs j hj
theorem G6.An(w:D.Wf){z:Nat->Nat}(a:Lt h V zl D.n z q D.size D.op D.cnt D.down D.zs)(b:∀i,A3y V zl D.n z q D.zs i->F i)(wl:∀i,F i->i<h.next)(hb:HB h)(m:i<D.n)
 (A:Z.Wf D.size) (p:E2 h' (z i) q' D.size Z) (c:Au (fun j=>j=z i\/((D.zs i).l≠[]/\j=q i)) h h') (o:HB h') (t:Z.l≠[]->h.next<=q'\/(q'=q i/\(D.zs i).l≠[])) :
 G6 h' V (D.set i Z) (Bi F h h')/\Au F h h':=by
 have u:∀j,(j=z i\/((D.zs i).l≠[]/\j=q i))->F j:=by
  rintro j (y|⟨e,f⟩)
  ·exact b j (.inr (.inr ⟨i,m,.inl y⟩))
  ·exact b j (.inr (.inr ⟨i,m,.inr ⟨e,f⟩⟩))
 refine⟨⟨w.set A,Bi.lt wl c.next,zl,z,_,a.Be8 hb m p c t,?_⟩,c.mono u⟩;rintro j (y|y|⟨d,hd,y⟩)
 ·exact .inl (b j (.inl y))
 ·exact .inl (b j (.inr (.inl y)))
 ·rcases y with y|⟨e,f⟩
  ·exact .inl (b j (.inr (.inr ⟨d,hd,.inl y⟩)))
  ·by_cases g:d=i
   ·subst g
    simp only[Dv.set,Aju,A3r,bI]at e f;subst f;rcases t e with y|⟨B,C⟩
    ·obtain⟨s,_,r⟩:=p.An
     exact .inr ⟨y,o _ _ (r.block (Atn.1 e))⟩
    ·rw[B];exact .inl (u _ (.inr ⟨C,rfl⟩))
   ·simp only[Dv.set,Aju,A3r,g,aY]at e f
    exact .inl (b j (.inr (.inr ⟨d,hd,.inr ⟨e,f⟩⟩)))
theorem A3s(d:G6 h V D F)(hb:HB h)(hK:1000<K)(i:Int)(hx:x.length=64)(hu:U8 x):
 Ok (Pw K (.ptr V 0) (I i) (.agg x) h) fun v h'=>v=.tuple [I (D.append i x).2.1,I (D.append i x).2.2]/\G6 h' V (D.append i x).1 (Bi F h h')/\Au F h h'/\HB h':=by
 simp only[Pw,Aa];have U:Ext h (h.new (.cells x 30)):=Au.new _ _;have B:(h.new (.cells x 30)).get h.next=some (.cells x 30):=Ad _ _
 have u:HB (h.new (.cells x 30)):=hb.new _;have d1:=d.ext U;have n1:(h.new (.cells x 30)).next=h.next+1:=rfl
 generalize h.new (.cells x 30)=h1 at U B u d1 n1⊢;refine(Ae4 (K:=K) d1 u i).Am ?_;rintro _ h2 ⟨rfl,d2,c2,f,n2⟩;have nx:¬F h.next:=fun y=>bS _ (d.lt _ y)
 have B:=c2.at u B nx;have m:Au F h h2:=(Ext.to U).trans c2;unfold Dv.append;unfold Dv.begin at d2;by_cases e:D.Et i=0
 ·rw[aQ e]at d2
  rw[aM (by rw[e];exact fun y=>y rfl),e];simp only[I,Ac,aC,aA,Aa,Zg];obtain⟨w,wl,zl,z,q,a,b⟩:=d2;have C:D.has i=true:=by
   unfold Dv.Et at e;cases hh:D.has i with
   | true=>rfl
   | false=>rw[hh]at e;split at e<;>simp at e
  have:=cO C;obtain⟨j,rfl⟩:∃j:Nat,i=j:=⟨i.toNat,by omega⟩;have hj:j<D.n:=by omega
  rw[show(j:Int).toNat=j from rfl];have W:=f _ _ a.dev;have E:=f _ _ a.row;have l5:=f _ _ B;have lz:=f _ _ (a.An j hj).An.choose_spec.1;have H:∀k:EV->R,Fy (.ptr zl j) h2 k=k (.ptr (z j) 0):=fun k=>by
   have:=a.Bje hj k;unfold I at this;rw[N5 (show j<D.tick.n from hj),bF,bk]at this;exact this
  have J:∀k:EV->R,Aal 1 (.slice zl 0 D.tick.n D.tick.n true) (.int .i64 (j:Int)) k=k (.ptr zl j):=fun k=>by
   rw[N5 (show j<D.tick.n from hj),bF,bk]
  simp only[Aa,Ar,Ce W,a.list,J,Ce E,H];rw[Afk (Ajr (a.lift.An j hj))];have X:=Bj5 (K:=K) a.lift w.n hK;have dd:∀h',Ext h2 h'->G6 h' V D.tick (Bi F h h')/\Au F h h'/\HB h':=fun h' Q=>⟨(G6.ext ⟨w,wl,zl,z,q,a,b⟩ Q).grow d.lt (by have:=m.next;have:=Q.next;omega),m.trans (Ext.to Q),Q.hb f⟩
  have app:¬((D.zs j).st=0/\D.op<=Aen D.zs D.n)->Ok (Q4 K (.ptr V 0) (I j) (.ptr h.next 0) h2) fun v h'=>v=.tuple [I (if(D.zs j).st=0/\D.op<=Aen D.zs D.n then(D.tick,0,33)else if 2<=(D.zs j).st then(D.tick,0,if(D.zs j).st=2 then 17 else Lm (D.zs j).st)else(D.tick.set j ((D.zs j).app D.size x),((D.zs j).l.length:Int),(0:Int))).2.1,I (if(D.zs j).st=0/\D.op<=Aen D.zs D.n then(D.tick,0,33)else if 2<=(D.zs j).st then(D.tick,0,if(D.zs j).st=2 then 17 else Lm (D.zs j).st)else(D.tick.set j ((D.zs j).app D.size x),((D.zs j).l.length:Int),(0:Int))).2.2]/\G6 h' V (if(D.zs j).st=0/\D.op<=Aen D.zs D.n then(D.tick,0,33)else if 2<=(D.zs j).st then(D.tick,0,if(D.zs j).st=2 then 17 else Lm (D.zs j).st)else(D.tick.set j ((D.zs j).app D.size x),((D.zs j).l.length:Int),(0:Int))).1 (Bi F h h')/\Au F h h'/\HB h':=by
   intro Y;rw[aM Y];simp only[Q4,I,Aa,Ar,Ce W,a.list,J,Ce E,H,Ce l5,Cy B rfl,Ak hx];have wz:=w.zs j hj;have ab:=w.size;have ad:=wz.len;by_cases A:2<=(D.zs j).st
   ·rw[aQ A]
    refine Ok.bE (A1h (K:=K) (a.lift.An j hj) (Da f) A wz.st x) (fun _ _ p=>p.2) ?_;rintro _ h3 h4 ⟨rfl,_⟩ sm x4;simp only[Aa];exact .ret ⟨rfl,dd h4 x4⟩
   ·rw[aM A]
    have t:(D.zs j).st<2:=by omega
    refine Ok.Bkb (S:=fun i=>i=z j\/(0<(D.zs j).l.length/\i=q j)) (by kernel_rfl) (by kernel_rfl) (fun _=>by kernel_rfl) (A0v (K:=K) (size:=D.size) (a.lift.An j hj) (Da f) t (bQ ad ab) hx) (fun _ _ p=>p.2.2.1) ?_;rintro _ h3 h4 s' ⟨rfl,⟨q',zz,L⟩,_,ae⟩ sm c4 _;simp only[Aa];have O:=sm.hb ae;have af:E2 h4 (z j) q' D.size ((D.zs j).app D.size x):=zz.ext fun i o g=>by rw[sm.get];exact g
    obtain⟨d4,P⟩:=G6.An w a b wl f hj (wz.app t hu) af (c4.mono fun i hi=>by
     rcases hi with y|⟨y1,y2⟩
     ·exact .inl y
     ·exact .inr ⟨Atn.2 y1,y2⟩) O (fun _=>.inl (by rw[Alk]at L;exact L))
    refine .ret ⟨rfl,?_,m.trans P,O⟩;refine d4.mono (fun i hi=>?_) (Bi.lt d.lt (m.trans P).next);rcases hi with y|y
    ·exact .inl y
    ·exact .inr ⟨bQ m.next y.1,y.2⟩
  simp only[I,Ac];by_cases h0:(D.zs j).st=0
  ·rw[show decide (((D.tick.zs j).st:Int)=0)=true from aJ (by show((D.zs j).st:Int)=0;omega)]
   simp only[Aa,Ac];rw[Afk X];rw[Gy W,Cz a.dev rfl];simp only[Aa,I,Ac,Mb];by_cases T:D.op<=Aen D.zs D.n
   ·rw[show decide (D.tick.op<=((Aen D.tick.zs D.tick.n:Nat):Int))=true from aJ T]
    simp only[Aa];rw[aQ ⟨h0,T⟩];exact .ret ⟨rfl,dd h2 (Au.refl _)⟩
   ·rw[show decide (D.tick.op<=((Aen D.tick.zs D.tick.n:Nat):Int))=false from aK T]
    simp only[Aa];exact app fun y=>T y.2
  ·rw[show decide (((D.tick.zs j).st:Int)=0)=false from aK (by show ¬((D.zs j).st:Int)=0;omega)]
   simp only[Aa,Ac,Mb];exact app fun y=>h0 y.1
 ·rw[aM e]at d2
  rw[aQ e];simp only[I,Ac,e,aF,aB,Aa];exact .ret ⟨rfl,d2.grow d.lt m.next,m,f⟩
def Dv.read(D:Dv)(i off:Int):List EV × Int:=if D.Et i≠0 then(Va,D.Et i)else Afm (D.zs i.toNat) off
theorem Dv.A16{i:Int}(a:D.Et i=0):∃j:Nat,i=j/\j<D.n:=by
 have b:D.has i=true:=by
  unfold Dv.Et at a;cases e:D.has i with
  | true=>rfl
  | false=>rw[e]at a;split at a<;>simp at a
 have:=cO b;exact⟨i.toNat,by omega,by omega⟩
theorem Lt.A81{z:Nat->Nat}{size:Int}{Zs:Nat->Zn}(d:Lt h V zl n z q size op cnt down Zs){j:Nat}(hj:j<n):
 (∀k:EV->R,Aal 1 (.slice zl 0 n n true) (.int .i64 (j:Int)) k=k (.ptr zl j))/\(∀k:EV->R,Fy (.ptr zl j) h k=k (.ptr (z j) 0)):=by
 have a:∀k:EV->R,Aal 1 (.slice zl 0 n n true) (.int .i64 (j:Int)) k=k (.ptr zl j):=fun k=>by
  rw[N5 hj,bF,bk]
 refine⟨a,fun k=>?_⟩;have:=d.Bje hj k;unfold I at this;rw[a]at this;exact this
theorem A9j(d:G6 h V D F)(hb:HB h)(i off:Int):
 Ok (Tx K (.ptr V 0) (I i) (I off) h) fun v h'=>v=.tuple [.agg (D.read i off).1,I (D.read i off).2]/\(D.read i off).1.length=64/\G6 h' V (D.begin i) (Bi F h h')/\Au F h h'/\HB h':=by
 simp only[Tx,Aa];have B:Ext h (h.new (.cells (List.replicate 64 (.int .u8 0)) 30)):=Au.new _ _;have u:(h.new (.cells (List.replicate 64 (.int .u8 0)) 30)).get h.next=some (.cells Va 30):=Ad _ _
 have m:HB (h.new (.cells (List.replicate 64 (.int .u8 0)) 30)):=hb.new _;have d1:=d.ext B;generalize h.new (.cells (List.replicate 64 (.int .u8 0)) 30)=h1 at B u m d1⊢;refine(Ae4 (K:=K) d1 m i).Am ?_;rintro _ h2 ⟨rfl,d2,c2,o,Q⟩;have nx:¬F h.next:=fun y=>bS _ (d.lt _ y)
 have u:=c2.at m u nx;have C:Au F h h2:=(Ext.to B).trans c2;have fin:∀(l:List EV) (e:Int) (g:Ab),Ext h2 g->l.length=64->Ok (stE 64 (.ptr h.next 0) (.agg l) g fun h=>Ii TT [.c (.ptr h.next 0) 30,.v (I e)] h) (fun _ _=>True)->True:=fun _ _ _ _ _ _=>trivial
 clear fin;have fin:∀(l:List EV) (e:Int) (g:Ab) (kk:Ab->R),(∀h',kk h'=Ii TT [.c (.ptr h.next 0) 30,.v (I e)] h')->Ext h2 g->l.length=64->(l,e)=D.read i off->Ok (stE 64 (.ptr h.next 0) (.agg l) g kk) fun v h'=>v=.tuple [.agg (D.read i off).1,I (D.read i off).2]/\(D.read i off).1.length=64/\G6 h' V (D.begin i) (Bi F h h')/\Au F h h'/\HB h':=by
  intro l e g kk E p A he;have t:=p.hb o;have O:=p.at o u;refine Ok.st l O rfl (by rw[show EV.cells (.agg l)=l from rfl,Bf,A]) (Bm (by rw[Kw];exact A.symm)) ?_;rw[E,Ea (Ae _ _ _) Azn.1 Azn.2 A,<-he];have P:=t _ _ O;have c3:Au F h (g.put h.next (.cells l 30)):=(C.trans (Ext.to p)).Ao (.inr (aD _)) P _;refine .ret ⟨rfl,A,?_,c3,t.put P _⟩;refine(((d2.ext p).frame (h':=g.put h.next (.cells l 30)) (aD _) fun j hj=>Af _ fun y=>?_)).grow d.lt c3.next
  subst y;exact nx hj
 unfold Dv.read at fin⊢;by_cases f:D.Et i=0
 ·rw[aM (by rw[f];exact fun y=>y rfl)]at fin⊢
  have H:D.begin i=D.tick:=by unfold Dv.begin;rw[aQ f]
  rw[H]at d2 fin⊢;rw[f];obtain⟨j,rfl,hj⟩:=Dv.A16 f;obtain⟨zl,z,q,a,b⟩:=d2.Mn;obtain⟨J,L⟩:=a.A81 (j:=j) hj;simp only[I,Ac,aC,aA,Aa,Ad5,a.list,J,L];refine(A8e (K:=K) (a.An j hj) o off).Am ?_;rintro _ g ⟨rfl,p⟩;simp only[Aa];exact fin _ _ g _ (fun _=>rfl) p (Bjd (a.An j hj).wf off) rfl
 ·rw[aQ f]at fin⊢
  simp only[I,Ac,f,aF,aB,Aa];rw[Aw (l:=Va) rfl];exact fin Va (D.Et i) h2 _ (fun _=>rfl) (Au.refl _) Kw rfl
noncomputable def Dv.finish(D:Dv)(i:Int):Dv × Int:=
 if D.Et i≠0 then(D,D.Et i)else
 (if Lm (D.zs i.toNat).st=0 then D.tick.set i.toNat (D.zs i.toNat).finish else D.tick,Lm (D.zs i.toNat).st)
theorem Zn.Wf.finish{size:Nat}(w:Z.Wf size):Z.finish.Wf size:=⟨w.u8,by show 2<=4;omega,w.safe,w.len,fun y=>absurd y (by show ¬2<2;omega)⟩
theorem A3t(d:G6 h V D F)(hb:HB h)(i:Int):
 Ok (Pt K (.ptr V 0) (I i) h) fun v h'=>v=I (D.finish i).2/\G6 h' V (D.finish i).1 (Bi F h h')/\Au F h h'/\HB h':=by
 simp only[Pt,dr];refine(Ae4 (K:=K) d hb i).Am ?_;rintro _ h2 ⟨rfl,d2,c2,m,H⟩;unfold Dv.finish;by_cases f:D.Et i=0
 ·rw[aM (by rw[f];exact fun y=>y rfl),f]
  have p:D.begin i=D.tick:=by unfold Dv.begin;rw[aQ f]
  rw[p]at d2;obtain⟨j,rfl,hj⟩:=Dv.A16 f;obtain⟨zl,z,q,a,b⟩:=d2.Mn;obtain⟨u,A⟩:=a.A81 (j:=j) hj;simp only[I,Ac,aC,aA,Aa,Ze,a.list,u,A];refine(A0t (K:=K) (a.An j hj) m).Am ?_;rintro _ B ⟨rfl,t,c3,o⟩
  try simp only[Aa]
  rw[show(j:Int).toNat=j from rfl];have t:E2 B (z j) (q j) D.size (if Lm (D.zs j).st=0 then(D.zs j).finish else D.zs j):=t;by_cases C:Lm (D.zs j).st=0
  ·simp only[C,bI]at t⊢
   obtain⟨d3,g⟩:=G6.An d2.wf a b d2.lt m hj (d2.wf.zs j hj).finish t (c3.mono fun _=>.inl) o (fun y=>.inr ⟨rfl,y⟩);refine .ret ⟨by rw[show Lm (D.tick.zs j).st=Lm (D.zs j).st from rfl,C],d3.mono (fun i E=>?_) (Bi.lt d.lt (c2.trans g).next),c2.trans g,o⟩;rcases E with y|y
   ·exact .inl y
   ·exact .inr ⟨bQ c2.next y.1,y.2⟩
  ·simp only[C,aY]at t⊢
   obtain⟨d3,g⟩:=G6.An d2.wf a b d2.lt m hj (d2.wf.zs j hj) t (c3.mono fun _=>.inl) o (fun y=>.inr ⟨rfl,y⟩);have e:D.tick.set j (D.zs j)=D.tick:=by
    unfold Dv.set;have:Aju D.tick.zs j (D.zs j)=D.tick.zs:=by funext k;unfold Aju;split<;>simp_all [Dv.tick]
    rw[this]
   have d3:G6 B V (D.tick.set j (D.zs j)) (Bi F h2 B):=d3;rw[e]at d3;refine .ret ⟨rfl,d3.mono (fun i E=>?_) (Bi.lt d.lt (c2.trans g).next),c2.trans g,o⟩;rcases E with y|y
   ·exact .inl y
   ·exact .inr ⟨bQ c2.next y.1,y.2⟩
 ·rw[aQ f]
  have p:D.begin i=D:=by unfold Dv.begin;rw[aM f]
  rw[p]at d2;simp only[I,Ac,f,aF,aB,Aa];exact .ret ⟨rfl,d2.grow d.lt c2.next,c2,m⟩
noncomputable def Dv.Bod(D:Dv):Dv:={ D with down:=true }
theorem Axd(d:G6 h V D F)(hb:HB h):
 Ok (J5 K (.ptr V 0) h) fun v h'=>G6 h' V D.Bod F/\Au F h h'/\HB h':=by
 obtain⟨w,wl,zl,z,q,a,b⟩:=d;simp only[J5,Aa];have e:=hb _ _ a.dev;refine Ok.st1 a.dev rfl rfl (by show 4<5;decide) ?_;exact .ret ⟨⟨⟨w.size,w.n,w.zs⟩,wl,zl,z,q,a.Bee D.cnt true,b⟩,(Au.refl h).Ao (.inl (b _ (.inl rfl))) e _,hb.put e _⟩
structure Aru(h:Ab)(V zl:Nat)(z:Nat->Nat)(D:Dv)(F:Nat->Prop):Prop where
 wf:D.Wf
 lt:∀i,F i->i<h.next
 Mn:∃q,Lt h V zl D.n z q D.size D.op D.cnt D.down D.zs/\∀i,A3y V zl D.n z q D.zs i->F i
theorem G6.z(d:G6 h V D F):∃zl z,Aru h V zl z D F:=by
 obtain⟨zl,z,q,a,b⟩:=d.Mn;exact⟨zl,z,d.wf,d.lt,q,a,b⟩
theorem Aru.s{z:Nat->Nat}(d:Aru h V zl z D F):G6 h V D F:=by
 obtain⟨q,a,b⟩:=d.Mn;exact⟨d.wf,d.lt,zl,z,q,a,b⟩
theorem Aru.mono{z:Nat->Nat}(d:Aru h V zl z D F)(s:∀i,F i->G i)(l:∀i,G i->i<h.next):Aru h V zl z D G:=by
 obtain⟨q,a,b⟩:=d.Mn;exact⟨d.wf,l,q,a,fun i e=>s i (b i e)⟩
theorem Aru.congr{z:Nat->Nat}(d:Aru h V zl z D F){zs':Nat->Zn}(e:∀i,i<D.n->zs' i=D.zs i):Aru h V zl z { D with zs:=zs' } F:=by
 obtain⟨q,a,b⟩:=d.Mn;refine⟨⟨d.wf.size,d.wf.n,fun i f=>?_⟩,d.lt,q,⟨a.pos,a.dev,a.row,fun i f=>?_,a.A76,fun i j f hj=>?_⟩,?_⟩
 ·show(zs' i).Wf _;rw[e i f];exact d.wf.zs i f
 ·show E2 _ _ _ _ (zs' i);rw[e i f];exact a.An i f
 ·show(zs' i).l≠[]->(zs' j).l≠[]->_;rw[e i f,e j hj];exact a.Bbv i j f hj
 ·rintro i (y|y|⟨k,g,y⟩)
  ·exact b i (.inl y)
  ·exact b i (.inr (.inl y))
  ·refine b i (.inr (.inr ⟨k,g,?_⟩))
   have y:i=z k\/(zs' k).l≠[]/\i=q k:=y;rw[e k g]at y;exact y
theorem Aru.An{z:Nat->Nat}(d:Aru h V zl z D F)(a:Lt h V zl D.n z q D.size D.op D.cnt D.down D.zs)(b:∀i,A3y V zl D.n z q D.zs i->F i)(hb:HB h)(m:i<D.n)
 (A:Z.Wf D.size) (p:E2 h' (z i) q' D.size Z) (c:Au (fun j=>j=z i\/((D.zs i).l≠[]/\j=q i)) h h') (o:HB h') (t:Z.l≠[]->h.next<=q'\/(q'=q i/\(D.zs i).l≠[])) :
 Aru h' V zl z (D.set i Z) (Bi F h h')/\Au F h h':=by
 have u:∀j,(j=z i\/((D.zs i).l≠[]/\j=q i))->F j:=by
  rintro j (y|⟨e,f⟩)
  ·exact b j (.inr (.inr ⟨i,m,.inl y⟩))
  ·exact b j (.inr (.inr ⟨i,m,.inr ⟨e,f⟩⟩))
 refine⟨⟨d.wf.set A,Bi.lt d.lt c.next,_,a.Be8 hb m p c t,?_⟩,c.mono u⟩;rintro j (y|y|⟨d,hd,y⟩)
 ·exact .inl (b j (.inl y))
 ·exact .inl (b j (.inr (.inl y)))
 ·rcases y with y|⟨e,f⟩
  ·exact .inl (b j (.inr (.inr ⟨d,hd,.inl y⟩)))
  ·by_cases g:d=i
   ·subst g
    simp only[Dv.set,Aju,A3r,bI]at e f;subst f;rcases t e with y|⟨B,C⟩
    ·obtain⟨s,_,r⟩:=p.An
     exact .inr ⟨y,o _ _ (r.block (Atn.1 e))⟩
    ·rw[B];exact .inl (u _ (.inr ⟨C,rfl⟩))
   ·simp only[Dv.set,Aju,A3r,g,aY]at e f
    exact .inl (b j (.inr (.inr ⟨d,hd,.inr ⟨e,f⟩⟩)))
def Ayi(f:Nat->Zn->Zn)(zs:Nat->Zn)(i:Nat):Nat->Zn:=fun j=>if j<i then f j (zs j)else zs j
theorem Bce(f:Nat->Zn->Zn)(zs:Nat->Zn)(i:Nat):Ayi f zs (i+1)=Aju (Ayi f zs i) i (f i (zs i)):=by
 funext j;unfold Ayi Aju;by_cases h1:j=i
 ·subst h1;simp
 ·by_cases h2:j<i
  ·rw[aQ (by omega),aM h1];exact(aQ h2).symm
  ·rw[aM (by omega),aM h1];exact(aM h2).symm
theorem A98(f:Nat->Zn->Zn)(zs:Nat->Zn)(i:Nat):Ayi f zs i i=zs i:=by unfold Ayi;rw[aM (by omega)]
noncomputable def Dv.flush(D:Dv):Dv × Int:=if D.down=true then(D,34)else({ D.tick with zs:=fun i=>(D.zs i).flush },0)
theorem Zn.Wf.flush{size:Nat}(w:Z.Wf size):Z.flush.Wf size:=⟨w.u8,w.st,aD _,w.len,w.room⟩
theorem Bei{z:Nat->Nat}(h0:Ab)(o:∀j,F j->j<h0.next):∀(m i:Nat) (h:Ab),D.n-i<m->i<=D.n->HB h->Au F h0 h->Aru h V zl z { D with zs:=Ayi (fun _ Z=>Z.flush) D.zs i } (Bi F h0 h) ->
 Ok (Jp K m (.slice zl 0 D.n D.n true) (I D.n) (I i) h) fun v h'=>v=I 0/\Aru h' V zl z { D with zs:=Ayi (fun _ Z=>Z.flush) D.zs D.n } (Bi F h0 h')/\Au F h0 h'/\HB h':=by
 intro m;induction m with
 | zero=>intro i h hm;omega
 | succ m E=>
  intro i h hm J hb c d;have A:=d.wf.n;have A:D.n<=512:=A;simp only[Jp,I,Ac,Aa];by_cases f:(i:Int)<D.n
  ·have e:i<D.n:=by omega
   obtain⟨q,a,b⟩:=d.Mn;obtain⟨p,t⟩:=a.A81 (j:=i) e;simp only[f,aB,Aa,Abr,p,t];have B:=a.An i e;have C:=d.wf.zs i e;simp only[A98]at B C;refine(A3c (K:=K) B hb).Am ?_;rintro _ h1 ⟨H,c1,g⟩;simp only[Aa7,I,Ac];rw[Cg];obtain⟨d1,u⟩:=d.An a b hb e C.flush H (c1.mono fun _=>.inl) g (fun y=>.inr ⟨rfl,by simp only[A98];exact y⟩);have c2:=c.grow u;refine E (i+1) h1 (by omega) (by omega) g c2 ?_;rw[Bce];exact d1.mono (fun j hj=>Bi.trans c.next c1.next hj) (Bi.lt o c2.next)
  ·have:i=D.n:=by omega
   subst this;simp only[f,aA,Aa,Abc];exact .ret ⟨rfl,d,c,hb⟩
theorem A51(d:G6 h V D F)(hb:HB h)(o:1000<K):
 Ok (Rq K (.ptr V 0) h) fun v h'=>v=I D.flush.2/\G6 h' V D.flush.1 (Bi F h h')/\Au F h h'/\HB h':=by
 obtain⟨w,wl,zl,z,q,a,b⟩:=d;have p:=w.n;unfold Dv.flush;simp only[Rq,Aa,Cz a.dev rfl];cases hd:D.down with
 | true=>
  simp only[Aa,bI];exact .ret ⟨rfl,G6.grow ⟨w,wl,zl,z,q,a,b⟩ wl (aD _),Au.refl _,hb⟩
 | false=>
  simp only[Aa,aW,aY,Aba,Cz a.dev rfl,I,Ac];have g:=hb _ _ a.dev;refine Ok.st1 a.dev rfl rfl (by show 3<5;decide) ?_;have c1:Au F h (h.put V (.cells ([EV.slice zl 0 D.n D.n true,I D.size,I D.op,I D.cnt,.bool D.down].set 3 (.int .i64 (Cx .i64 (D.cnt+1)))) 152)):=(Au.refl h).Ao (.inl (b _ (.inl rfl))) g _;have e:HB (h.put V (.cells ([EV.slice zl 0 D.n D.n true,I D.size,I D.op,I D.cnt,.bool D.down].set 3 (.int .i64 (Cx .i64 (D.cnt+1)))) 152)):=hb.put g _;have d1:Aru (h.put V (.cells ([EV.slice zl 0 D.n D.n true,I D.size,I D.op,I D.cnt,.bool D.down].set 3 (.int .i64 (Cx .i64 (D.cnt+1)))) 152)) V zl z D.tick F:=⟨⟨w.size,w.n,w.zs⟩,wl,q,a.Bee (Cx .i64 (D.cnt+1)) D.down,b⟩;generalize h.put V (.cells ([EV.slice zl 0 D.n D.n true,I D.size,I D.op,I D.cnt,.bool D.down].set 3 (.int .i64 (Cx .i64 (D.cnt+1)))) 152)=h1 at c1 e d1⊢;obtain⟨t,j,b1⟩:=d1.Mn;rw[Cz j.dev rfl];simp only[Aa];have:=Bei (K:=K) (D:=D.tick) (F:=F) h wl K 0 h1 (by show D.n-0<K;omega) (cU _) e c1 (Aru.congr (d1.mono (fun _=>.inl) (Bi.lt wl c1.next)) (fun i _=>by unfold Ayi;rw[aM (cn _)]));refine this.mono ?_;rintro v h2 ⟨rfl,d2,c2,f⟩;refine⟨rfl,?_,c2,f⟩;exact(d2.congr (zs':=fun i=>(D.zs i).flush) fun i m=>(aQ m).symm).s
def Dv.fail(D:Dv)(i:Int)(st:Nat):Dv:=if D.has i=true then D.set i.toNat ((D.zs i.toNat).fail st)else D
theorem Zn.Wf.fail{size:Nat}(w:Z.Wf size)(st:Nat):(Z.fail st).Wf size:=by
 unfold Zn.fail;split
 ·exact⟨w.u8,by show st<=4;omega,w.safe,w.len,fun y=>absurd y (by show ¬st<2;omega)⟩
 ·exact w
theorem Bbg(d:G6 h V D F)(hb:HB h)(i:Int)(st:Nat):
 Ok (O0 K (.ptr V 0) (I i) (I st) h) fun v h'=>G6 h' V (D.fail i st) (Bi F h h')/\Au F h h'/\HB h':=by
 simp only[O0,Agl d,Aa];unfold Dv.fail;cases o:D.has i with
 | false=>
  simp only[Aa,aW,aY];exact .ret ⟨d.grow d.lt (aD _),Au.refl _,hb⟩
 | true=>
  have:=cO o;obtain⟨j,rfl⟩:∃j:Nat,i=j:=⟨i.toNat,by omega⟩;have hj:j<D.n:=by omega
  obtain⟨zl,z,q,a,b⟩:=d.Mn;obtain⟨f,g⟩:=a.A81 (j:=j) hj;simp only[Aa,bI,Adu,a.list];unfold I;rw[f,g];refine(A6v (K:=K) (a.An j hj) hb st).Am ?_;rintro _ t ⟨p,c3,e⟩;obtain⟨d3,m⟩:=G6.An d.wf a b d.lt hb hj ((d.wf.zs j hj).fail st) p (c3.mono fun _=>.inl) e (fun y=>.inr ⟨rfl,by
   unfold Zn.fail at y;split at y<;>exact y⟩)
  exact .ret ⟨d3,m,e⟩
def kp(a b:Int):EV:=.agg [I a,I b]
def Alu(ms:List (EV × EV)):Prop:=∀e∈ms,∃a b p n,e=(kp a b,.agg (p++[I n]))/\U8 p/\p.length=64
theorem Aw9(a b:Int):Agv (I a) (I b)=some (decide (a=b)):=by
 show Ax (Nat.beq (O2 .i64) (O2 .i64)) (some (eqB a b)) none=_;rw[cI,Aj,Ajz]
theorem Bnr(a b c d:Int):Axg (kp a b) (kp c d)=some (decide (a=c/\b=d)):=by
 show Ey [I a,I b] [I c,I d]=_;unfold Ey;rw[Aw9];by_cases h1:a=c
 ·rw[aJ h1]
  simp only[Ey,Aw9];by_cases h2:b=d
  ·rw[aJ h2,aJ ⟨h1,h2⟩]
  ·rw[aK h2,aK fun y=>h2 y.2]
 ·rw[aK h1,aK fun y=>h1 y.1]
  simp only[Ey,Aw9];by_cases h2:b=d
  ·rw[aJ h2]
  ·rw[aK h2]
theorem Amt(a b:Int):∀(ms:List (EV × EV)) (i:Nat),Alu ms->Hn (kp a b) ms i=some none\/∃j p n,Hn (kp a b) ms i=some (some (j,.agg (p++[I n])))/\U8 p/\p.length=64
 | [],i,_=>.inl rfl
 | (x,y)::r,i,hm=>by
  obtain⟨g,m,p,n,e,o,t⟩:=hm _ (aV ..);cases e;have u:=Amt a b r (Nat.succ i) fun e he=>hm e (aT _ he)
  unfold Hn;rw[Bnr];by_cases f:a=g/\b=m
  ·rw[aJ f];exact .inr ⟨i,p,n,rfl,o,t⟩
  ·rw[aK f];exact u
theorem Atr(a b:Int):Om TT 179 (kp a b)=true:=by
 have h1:TT.key 179=true:=by kernel_rfl
 have h2:TT.eqs 179=some [0,0]:=by kernel_rfl
 unfold Om kp;simp only[h1,h2,Aj];rw[show shaped [0,0] [I a,I b]=true from rfl,Aj];simp only[Ey,Aw9,aB]
theorem A4u(f:h.get M=some (.map ms))(hm:Alu ms)(a b:Int):∃ms',builtin TT .delete #[147,179] [.map M,kp a b] h=some (.tuple [],h.put M (.map ms'))/\Alu ms':=by
 have hu:TT.T8 147=some (.map 179 342):=by kernel_rfl
 have e:builtin TT .delete #[147,179] [.map M,kp a b] h=Ax (Om TT 179 (kp a b)) (match h.get M with
  | some (.map es)=>match Hn (kp a b) es 0 with
   | some (some (j,_))=>some (.tuple [],h.put M (.map (es.eraseIdx j)))
   | some none=>some (.tuple [],h.put M (.map es))
   | none=>none
  | _=>none) none:=by
  unfold builtin;simp only[hu];rfl
 rw[e,Atr,Aj,f];rcases Amt a b ms 0 hm with y|⟨j,p,n,y,_⟩
 ·simp only[y];exact⟨ms,rfl,hm⟩
 ·simp only[y];exact⟨_,rfl,fun e he=>hm e (List.mem_of_mem_eraseIdx he)⟩
theorem Bi6(f:h.get M=some (.map ms))(hm:Alu ms)(a b:Int):∃p n,Ard TT 179 342 false (.map M) (kp a b) h=some (.agg (p++[I n]),h)/\U8 p/\p.length=64:=by
 have e:Ard TT 179 342 false (.map M) (kp a b) h=Ax (Om TT 179 (kp a b)) (match h.get M with
  | some (.map es)=>match Hn (kp a b) es 0 with
   | some (some (_,v))=>some (v,h)
   | some none=>oB (fun g=>some (g,h)) (zeroOf TT 342)
   | none=>none
  | _=>none) none:=rfl
 have m:zeroOf TT 342=some (.agg (Va++[I 0])):=by kernel_rfl
 rw[e,Atr,Aj,f];rcases Amt a b ms 0 hm with y|⟨j,p,n,y,o,t⟩
 ·simp only[y,m];exact⟨Va,0,rfl,U8.zs,Kw⟩
 ·simp only[y];exact⟨p,n,rfl,o,t⟩
theorem A6x(m:h.get M=some (.map ms))(hm:Alu ms)(a b:Int){p:List EV}{n:Int}(f:U8 p)(g:p.length=64):∃ms',Z2 TT 179 (.map M) (kp a b) (.agg (p++[I n])) h=some (.tuple [],h.put M (.map ms'))/\Alu ms':=by
 have e:Z2 TT 179 (.map M) (kp a b) (.agg (p++[I n])) h=Ax (Om TT 179 (kp a b)) (match h.get M with
  | some (.map es)=>match Hn (kp a b) es 0 with
   | some (some (j,_))=>some (.tuple [],h.put M (.map (es.set j (kp a b,.agg (p++[I n])))))
   | some none=>some (.tuple [],h.put M (.map (es++[(kp a b,.agg (p++[I n]))])))
   | none=>none
  | _=>none) none:=rfl
 rw[e,Atr,Aj,m];rcases Amt a b ms 0 hm with y|⟨j,o,t,y,_⟩
 ·simp only[y]
  refine⟨_,rfl,fun e he=>?_⟩;rcases bP.1 he with he|he
  ·exact hm e he
  ·rw[aP.1 he];exact⟨a,b,p,n,rfl,f,g⟩
 ·simp only[y]
  refine⟨_,rfl,fun e he=>?_⟩;rcases dH he with he|he
  ·exact hm e he
  ·rw[he];exact⟨a,b,p,n,rfl,f,g⟩
structure Lg where
 Mn:Int
 kind:Int
 An:Int
 off:Int
 pat:List EV
def Lg.cells(e:Lg):List EV:=[I e.Mn,I e.kind,I e.An,I e.off]++e.pat
structure Lg.Wf(e:Lg):Prop where
 u8:U8 e.pat
 len:e.pat.length=64
structure Kx where
 dv:Dv
 ev:List Lg
 Pd:List Lg
def Buj:EV->EV->EV
 | .int k x,.int _ y=>.int k (Int.ofNat (Nat.xor x.toNat y.toNat))
 | a,_=>a
def Yy(a b:List EV):List EV:=List.zipWith Buj a b
def Dv.Ayj(D:Dv)(z off:Int)(p:List EV):Dv:=
 if D.has z=true/\0<=off/\off<(D.zs z.toNat).l.length then D.set z.toNat { D.zs z.toNat with l:=(D.zs z.toNat).l.set off.toNat (Yy (((D.zs z.toNat).l[off.toNat]?).getD Va) p) }else D
noncomputable def Dv.Si(D:Dv)(e:Lg):Dv:=
 if e.kind=1 then D.Ayj e.An e.off e.pat else if e.kind=2 then D.fail e.An 3 else if e.kind=3 then D.fail e.An 4 else if e.kind=4 then D.Bod else D
noncomputable def Azv:List Lg->Dv->List Lg->Kx
 | [],D,k=>⟨D,[],k⟩
 | e::r,D,k=>if D.down=true\/¬e.Mn<=D.cnt then⟨D,e::r,k⟩else Azv r (D.Si e) (k++[e])
noncomputable def Kx.due(S:Kx):Kx:=Azv S.ev S.dv S.Pd
structure Kx.Wf(S:Kx):Prop where
 ev:S.ev.length+S.Pd.length<=200
 wf:∀e∈S.ev,e.Wf
 hwf:∀e∈S.Pd,e.Wf
structure Agf(h:Ab)(D V M qc qh:Nat)(cs hs:EV)(ms:List (EV × EV))(S:Kx)(F G:Nat->Prop):Prop where
 Dd:h.get D=some (.cells [.ptr V 0,cs,hs,.map M] 149)
 map:h.get M=some (.map ms)
 marks:Alu ms
 F7:Cc h cs qc 32 68 S.ev.length (S.ev.map Lg.cells).flatten
 Aou:Cc h hs qh 32 68 S.Pd.length (S.Pd.map Lg.cells).flatten
 dev:G6 h V S.dv F
 sub:(∀i,F i->G i)/\G D/\G M/\(0<S.ev.length->G qc)/\(0<S.Pd.length->G qh)
 apart:¬F D/\¬F M/\(0<S.ev.length->¬F qc)/\(0<S.Pd.length->¬F qh)/\(0<S.ev.length->0<S.Pd.length->qc≠qh)
structure Fh(h:Ab)(D:Nat)(S:Kx)(G:Nat->Prop):Prop where
 lt:∀i,G i->i<h.next
 wf:S.Wf
 Mn:∃V M qc qh cs hs ms F,Agf h D V M qc qh cs hs ms S F G
theorem Agf.mono{D:Nat}{S:Kx}{b:Nat->Prop}(a:Agf h D V M qc qh cs hs ms S F G)(s:∀i,G i->b i):Agf h D V M qc qh cs hs ms S F b:=
 ⟨a.Dd,a.map,a.marks,a.F7,a.Aou,a.dev,⟨fun i e=>s i (a.sub.1 i e),s _ a.sub.2.1,s _ a.sub.2.2.1,fun y=>s _ (a.sub.2.2.2.1 y),fun y=>s _ (a.sub.2.2.2.2 y)⟩,a.apart⟩
theorem Fh.mono{D:Nat}{S:Kx}{b:Nat->Prop}(d:Fh h D S G)(s:∀i,G i->b i)(l:∀i,b i->i<h.next):Fh h D S b:=by
 obtain⟨V,M,qc,qh,cs,hs,ms,F,a⟩:=d.Mn;exact⟨l,d.wf,V,M,qc,qh,cs,hs,ms,F,a.mono s⟩
theorem Fh.grow{D:Nat}{S:Kx}(d:Fh h' D S G)(l:∀i,G i->i<h.next)(n:h.next<=h'.next):Fh h' D S (Bi G h h'):=d.mono (fun _=>.inl) (Bi.lt l n)
theorem Fh.Bki{D:Nat}{S:Kx}(d:Fh h2 D S (Bi (Bi G h h1) h1 h2))(a:h.next<=h1.next)(b:h1.next<=h2.next)(l:∀i,G i->i<h.next):Fh h2 D S (Bi G h h2):=
 d.mono (fun _=>Bi.trans a b) (Bi.lt l (bQ a b))
theorem Agf.frame{D:Nat}{S:Kx}(a:Agf h D V M qc qh cs hs ms S F G)(n:h.next<=h'.next)(e:∀i,G i->h'.get i=h.get i):Agf h' D V M qc qh cs hs ms S F G:=
 ⟨by rw[e _ a.sub.2.1];exact a.Dd,by rw[e _ a.sub.2.2.1];exact a.map,a.marks,a.F7.frame fun y=>e _ (a.sub.2.2.2.1 y),a.Aou.frame fun y=>e _ (a.sub.2.2.2.2 y),a.dev.frame n fun i b=>e i (a.sub.1 i b),a.sub,a.apart⟩
theorem Fh.frame{D:Nat}{S:Kx}(d:Fh h D S G)(n:h.next<=h'.next)(e:∀i,G i->h'.get i=h.get i):Fh h' D S G:=by
 obtain⟨V,M,qc,qh,cs,hs,ms,F,a⟩:=d.Mn;exact⟨fun i b=>aN (d.lt i b) n,d.wf,V,M,qc,qh,cs,hs,ms,F,a.frame n e⟩
theorem Fh.chg{D:Nat}{S:Kx}{T:Nat->Prop}(d:Fh h D S G)(c:Au T h h')(n:∀i,G i->¬T i):Fh h' D S G:=d.frame c.next fun i a=>c.get i (d.lt i a) (n i a)
theorem Fh.ext{D:Nat}{S:Kx}(d:Fh h D S G)(c:Ext h h'):Fh h' D S G:=d.chg c fun _ _=>id
theorem Agf.put{D:Nat}{S:Kx}(a:Agf h D V M qc qh cs hs ms S F G)(hb:HB h)(d:G6 h' V dv (Bi F h h'))(c:Au F h h'):
 Agf h' D V M qc qh cs hs ms { S with dv:=dv } (Bi F h h') (Bi G h h'):=by
 have lq:∀{s q n l},Cc h s q 32 68 n l->0<n->q<h.next:=fun r y=>hb _ _ (r.block y)
 have e:∀{i},¬F i->i<h.next->¬Bi F h h' i:=fun y l z=>by
  rcases z with z|z
  ·exact y z
  ·omega
 refine⟨c.at hb a.Dd a.apart.1,c.at hb a.map a.apart.2.1,a.marks,a.F7.frame fun y=>c.get _ (lq a.F7 y) (a.apart.2.2.1 y),a.Aou.frame fun y=>c.get _ (lq a.Aou y) (a.apart.2.2.2.1 y),d,⟨fun i b=>?_,.inl a.sub.2.1,.inl a.sub.2.2.1,fun y=>.inl (a.sub.2.2.2.1 y),fun y=>.inl (a.sub.2.2.2.2 y)⟩,⟨e a.apart.1 (hb _ _ a.Dd),e a.apart.2.1 (hb _ _ a.map),fun y=>e (a.apart.2.2.1 y) (lq a.F7 y),fun y=>e (a.apart.2.2.2.1 y) (lq a.Aou y),a.apart.2.2.2.2⟩⟩;rcases b with b|b
 ·exact .inl (a.sub.1 i b)
 ·exact .inr b
theorem Fh.put{D:Nat}{S:Kx}(s:Fh h D S G)(a:Agf h D V M qc qh cs hs ms S F G)(hb:HB h)(d:G6 h' V dv (Bi F h h'))(c:Au F h h'):
 Fh h' D { S with dv:=dv } (Bi G h h')/\Au G h h':=
 ⟨⟨Bi.lt s.lt c.next,⟨s.wf.ev,s.wf.wf,s.wf.hwf⟩,V,M,qc,qh,cs,hs,ms,_,a.put hb d c⟩,c.mono a.sub.1⟩
theorem Agf.Bkv{D:Nat}{S:Kx}(a:Agf h D V M qc qh cs hs ms S F G)(hm:Alu ms'):
 Agf (h.put M (.map ms')) D V M qc qh cs hs ms' S F G:=by
 refine⟨?_,Ae _ _ _,hm,a.F7.frame fun y=>Af _ ?_,a.Aou.frame fun y=>Af _ ?_,a.dev.frame (aD _) fun i b=>Af _ fun y=>?_,a.sub,a.apart⟩
 ·rw[Af _ (Ba a.map a.Dd (by simp))];exact a.Dd
 ·exact Ba a.map (a.F7.block y) (by simp)
 ·exact Ba a.map (a.Aou.block y) (by simp)
 ·rw[<-y]at b;exact a.apart.2.1 b
theorem Fh.Bkv{D:Nat}{S:Kx}(s:Fh h D S G)(a:Agf h D V M qc qh cs hs ms S F G)(hb:HB h)(hm:Alu ms'):
 Fh (h.put M (.map ms')) D S G/\Au G h (h.put M (.map ms'))/\HB (h.put M (.map ms')):=by
 have b:=hb _ _ a.map;exact⟨⟨s.lt,s.wf,V,M,qc,qh,cs,hs,ms',F,a.Bkv hm⟩,(Au.refl h).Ao (.inl a.sub.2.2.1) b _,hb.put b _⟩
theorem Ajo{D:Nat}{S:Kx}(a:Agf h D V M qc qh cs hs ms S F G):Db K (.ptr D 0) h=some (.ptr V 0,h):=by simp only[Db,Aa,Cz a.Dd rfl]
def Brk(disp:Nat->Option FT)(K d:Nat)(S:Kx):Prop:=∀(h:Ab) (D:Nat) (G:Nat->Prop),Fh h D S G->HB h->Ok (Ag TT disp K d false 172 [.ptr D 0] h) fun v h'=>Fh h' D S.due (Bi G h h')/\Au G h h'/\HB h'
variable {S:Kx}
noncomputable def Kx.begin(S:Kx)(i:Int):Kx:=if S.dv.has i=true then S.due else S
def A67(disp:Nat->Option FT)(K:Nat)(S:Kx):Prop:=∀d,12<=d->Brk disp K d S
theorem Aey(H:Bw disp){d:Nat}(hd:13<=d){D:Nat}(f:A67 disp K S)(s:Fh h D S G)(hb:HB h)(i:Int):
 Ok (Ag TT disp K d false 102 [.ptr D 0,I i] h) fun v h'=>Fh h' D (S.begin i) (Bi G h h')/\Au G h h'/\HB h':=by
 obtain⟨e,rfl⟩:∃k,d=k+1:=⟨d-1,by omega⟩;rw[Aqr H (by omega)];obtain⟨V,M,qc,qh,cs,m,ms,F,a⟩:=s.Mn;obtain⟨zl,z,q,b,_⟩:=a.dev.Mn;have fin:Ok (some (.tuple [],h)) fun(_:EV) h'=>Fh h' D S (Bi G h h')/\Au G h h'/\HB h':=.ret ⟨s.grow s.lt (aD _),Au.refl _,hb⟩
 unfold Kx.begin;simp only[Akj,I,Ac,Aa];by_cases h0:0<=i
 ·have j:=Av6 (K:=K) b
  simp only[I]at j;simp only[h0,aB,Aa,Cz a.Dd rfl,j,Ac,Ut];by_cases h1:i<S.dv.n
  ·have g:S.dv.has i=true:=aJ ⟨h0,h1⟩
   simp only[h1,aB,Aa];rw[g,aQ rfl];refine(f e (by omega) h D G s hb).Am ?_;intro v h' p;exact .ret p
  ·have g:S.dv.has i=false:=aK fun y=>h1 y.2
   simp only[h1,aA,Aa];rw[g,aM (by simp)];exact fin
 ·have g:S.dv.has i=false:=aK fun y=>h0 y.1
  simp only[h0,aA,Aa,Ut];rw[g,aM (by simp)];exact fin
noncomputable def Kx.append(S:Kx)(i:Int)(x:List EV):Kx × Int × Int:=({ S.begin i with dv:=((S.begin i).dv.append i x).1 },((S.begin i).dv.append i x).2)
theorem Asq(H:Bw disp)(X:1000<K){d:Nat}(hd:14<=d){D:Nat}(u:A67 disp K S)(s:Fh h D S G)(hb:HB h)(i:Int)(O:x.length=64)(hu:U8 x):
 Ok (Ag TT disp K d false 45 [.ptr D 0,I i,.agg x] h) fun v h'=>v=.tuple [I (S.append i x).2.1,I (S.append i x).2.2]/\Fh h' D (S.append i x).1 (Bi G h h')/\Au G h h'/\HB h':=by
 obtain⟨e,rfl⟩:∃k,d=k+1:=⟨d-1,by omega⟩;rw[Aoj H (by omega)];simp only[Ai9,Aa];have g:Ext h (h.new (.cells x 30)):=Au.new _ _;have A:(h.new (.cells x 30)).get h.next=some (.cells x 30):=Ad _ _
 have m:HB (h.new (.cells x 30)):=hb.new _;have s1:=s.ext g;have Y:(h.new (.cells x 30)).next=h.next+1:=rfl
 generalize h.new (.cells x 30)=h1 at g A m s1 Y⊢;refine(Aey (K:=K) H (by omega) u s1 m i).Am ?_;rintro _ h2 ⟨s2,c2,b⟩;have nx:¬G h.next:=fun y=>bS _ (s.lt _ y)
 have A:=c2.at m A nx;have o:Au G h h2:=(Ext.to g).trans c2;have s2:Fh h2 D (S.begin i) (Bi G h1 h2):=s2;unfold Kx.append;generalize S.begin i=T at s2⊢;obtain⟨V,M,qc,qh,cs,E,ms,F,a⟩:=s2.Mn;have lD:=b _ _ a.Dd;have l5:=b _ _ A;simp only[Aa,Ar,Ce lD,Cz a.Dd rfl,Ce l5,Cy A rfl,Ak O];refine Ok.bC (S:=F) (A3s (K:=K) a.dev.lift (Da b) X i O hu) (fun _ _ p=>p.2.2.1) ?_;rintro _ h3 h4 s' ⟨rfl,d3,_,J⟩ sm c4 _;have t:=sm.hb J;have d4:G6 h4 V (T.dv.append i x).1 (Bi F h2 h4):=by
  have:=d3.frame (h':=h4) (by rw[sm.next];exact aD _) fun j _=>sm.get j
  refine this.mono (fun j hj=>?_) (Bi.lt a.dev.lt c4.next);rcases hj with y|y
  ·exact .inl y
  ·exact .inr ⟨y.1,by rw[sm.next];exact y.2⟩
 have a4:=a.put b d4 c4;obtain⟨B,f⟩:=s2.put a b d4 c4;have C:Au G h h4:=by
  refine o.then f fun j hj hl=>?_
  rcases hj with y|y
  ·exact y
  ·have:=g.next;omega
 have B:Fh h4 D { T with dv:=(T.dv.append i x).1 } (Bi G h h4):=B.mono (fun j hj=>by
  rcases hj with(y|y)|y
  ·exact .inl y
  ·have:=g.next;have:=f.next;exact .inr ⟨by omega,by omega⟩
  ·have:=o.next;exact .inr ⟨by omega,y.2⟩) (Bi.lt s.lt C.next)
 simp only[Aa,I,Ac];by_cases P:(T.dv.append i x).2.2=0
 ·simp only[P,aB,Aa,Cz a4.Dd rfl]
  rw[Aw (l:=[I i,I (T.dv.append i x).2.1]) rfl];obtain⟨ms',e1,L⟩:=A4u a4.map a4.marks i (T.dv.append i x).2.1;unfold kp at e1;rw[e1,Ap];simp only[Sp,dr];obtain⟨V',M',ad,ae,af,Q,U,F',a5⟩:=B.Mn;have W:=t _ _ a4.map;have a6:=a4.Bkv L;have gM:Bi G h h4 M:=by
   rcases a.sub.2.2.1 with y|y
   ·exact .inl y
   ·have:=g.next;have:=f.next;exact .inr ⟨by omega,by omega⟩
  have c5:Au (Bi G h h4) h4 (h4.put M (.map ms')):=(Au.refl h4).Ao (.inl gM) W _;refine .ret ⟨rfl,⟨Bi.lt s.lt (C.grow c5).next,B.wf,V,M,qc,qh,cs,E,ms',_,a6.mono fun j hj=>?_⟩,C.grow c5,t.put W _⟩;show Bi G h h4 j;rcases hj with(y|y)|y
  ·exact .inl y
  ·have:=g.next;have:=f.next;exact .inr ⟨by omega,by omega⟩
  ·have:=o.next;exact .inr ⟨by omega,y.2⟩
 ·simp only[P,aA,Aa,Sp]
  exact .ret ⟨rfl,B,C,t⟩
noncomputable def Kx.read(S:Kx)(i off:Int):Kx × List EV × Int:=({ S.begin i with dv:=(S.begin i).dv.begin i },(S.begin i).dv.read i off)
theorem Ayx(H:Bw disp){d:Nat}(hd:14<=d){D:Nat}(o:A67 disp K S)(s:Fh h D S G)(hb:HB h)(i off:Int):
 Ok (Ag TT disp K d false 227 [.ptr D 0,I i,I off] h) fun v h'=>v=.tuple [.agg (S.read i off).2.1,I (S.read i off).2.2]/\(S.read i off).2.1.length=64/\Fh h' D (S.read i off).1 (Bi G h h')/\Au G h h'/\HB h':=by
 obtain⟨e,rfl⟩:∃k,d=k+1:=⟨d-1,by omega⟩;rw[Arx H (by omega)];simp only[Am6,Aa];have p:Ext h (h.new (.cells (List.replicate 64 (.int .u8 0)) 30)):=Au.new _ _;have g:(h.new (.cells (List.replicate 64 (.int .u8 0)) 30)).get h.next=some (.cells Va 30):=Ad _ _
 have b:HB (h.new (.cells (List.replicate 64 (.int .u8 0)) 30)):=hb.new _;have s1:=s.ext p;generalize h.new (.cells (List.replicate 64 (.int .u8 0)) 30)=h1 at p g b s1⊢;refine(Aey (K:=K) H (by omega) o s1 b i).Am ?_;rintro _ h2 ⟨s2,c2,f⟩;have nx:¬G h.next:=fun y=>bS _ (s.lt _ y)
 have g:=c2.at b g nx;have O:h.next<h1.next:=by
  have:=f _ _ g;rcases dL h.next h1.next with y|y
  ·exact y
  ·exact absurd (b _ _ (show h1.get h.next=some (.cells Va 30) by assumption)) (by omega)
 have t:Au G h h2:=(Ext.to p).trans c2;unfold Kx.read;generalize S.begin i=T at s2⊢;obtain⟨V,M,qc,qh,cs,E,ms,F,a⟩:=s2.Mn;simp only[Aa,Cz a.Dd rfl];refine(A9j (K:=K) a.dev f i off).Am ?_;rintro _ B ⟨rfl,hlen,d3,c3,u⟩;obtain⟨J,m⟩:=s2.put a f d3 c3;have C:¬Bi G h1 h2 h.next:=by
  rintro(y|y)
  ·exact nx y
  ·omega
 have g:=m.at f g C;have A:=u _ _ g;simp only[Aa];refine Ok.st (T.dv.read i off).1 g rfl (by rw[show EV.cells (.agg (T.dv.read i off).1)=(T.dv.read i off).1 from rfl,Bf,hlen]) (Bm (by rw[Kw];exact hlen.symm)) ?_;rw[Ea (Ae _ _ _) Azn.1 Azn.2 hlen];have L:Au G h B:=by
  refine t.then m fun j hj P=>?_
  rcases hj with y|y
  ·exact y
  ·have:=p.next;omega
 have c4:Au G h (B.put h.next (.cells (T.dv.read i off).1 30)):=L.Ao (.inr (aD _)) A _;refine .ret ⟨rfl,hlen,?_,c4,u.put A _⟩;refine Fh.mono (J.frame (h':=B.put h.next (.cells (T.dv.read i off).1 30)) (aD _) fun j hj=>Af _ fun y=>?_) (fun j hj=>?_) (Bi.lt s.lt c4.next)
 ·subst y
  rcases hj with y|y
  ·exact C y
  ·have:=c2.next;omega
 ·show Bi G h B j
  rcases hj with(y|y)|y
  ·exact .inl y
  ·have:=p.next;have:=m.next;exact .inr ⟨by omega,by omega⟩
  ·have:=t.next;exact .inr ⟨by omega,y.2⟩
noncomputable def Kx.flush(S:Kx):Kx × Int:=({ S.due with dv:=S.due.dv.flush.1 },S.due.dv.flush.2)
theorem Avs(H:Bw disp)(m:1000<K){d:Nat}(hd:14<=d){D:Nat}(b:A67 disp K S)(s:Fh h D S G)(hb:HB h):
 Ok (Ag TT disp K d false 140 [.ptr D 0] h) fun v h'=>v=I S.flush.2/\Fh h' D S.flush.1 (Bi G h h')/\Au G h h'/\HB h':=by
 obtain⟨e,rfl⟩:∃k,d=k+1:=⟨d-1,by omega⟩;rw[Apx H (by omega)];simp only[Ake,dr];refine(b e (by omega) h D G s hb).Am ?_;rintro _ h2 ⟨s2,c2,f⟩;unfold Kx.flush;generalize S.due=T at s2⊢;obtain⟨V,M,qc,qh,cs,o,ms,F,a⟩:=s2.Mn;simp only[Aa,Cz a.Dd rfl];refine(A51 (K:=K) a.dev f m).Am ?_;rintro _ t ⟨rfl,d3,c3,j⟩;obtain⟨p,g⟩:=s2.put a f d3 c3;exact .ret ⟨rfl,p.Bki c2.next g.next s.lt,c2.grow g,j⟩
noncomputable def Kx.finish(S:Kx)(i:Int):Kx × Int:=({ S.begin i with dv:=((S.begin i).dv.finish i).1 },((S.begin i).dv.finish i).2)
theorem Asz(H:Bw disp){d:Nat}(hd:14<=d){D:Nat}(b:A67 disp K S)(s:Fh h D S G)(hb:HB h)(i:Int):
 Ok (Ag TT disp K d false 219 [.ptr D 0,I i] h) fun v h'=>v=I (S.finish i).2/\Fh h' D (S.finish i).1 (Bi G h h')/\Au G h h'/\HB h':=by
 obtain⟨e,rfl⟩:∃k,d=k+1:=⟨d-1,by omega⟩;rw[Aof H (by omega)];simp only[Ah3,dr];refine(Aey (K:=K) H (by omega) b s hb i).Am ?_;rintro _ h2 ⟨s2,c2,f⟩;unfold Kx.finish;generalize S.begin i=T at s2⊢;obtain⟨V,M,qc,qh,cs,m,ms,F,a⟩:=s2.Mn;simp only[Aa,Cz a.Dd rfl];refine(A3t (K:=K) a.dev f i).Am ?_;rintro _ p ⟨rfl,d3,c3,j⟩;obtain⟨o,g⟩:=s2.put a f d3 c3;exact .ret ⟨rfl,o.Bki c2.next g.next s.lt,c2.grow g,j⟩
theorem Bba {D:Nat}(z:Int):∀(m i:Nat) (h:Ab),S.dv.size-i<m->Fh h D S G->HB h ->
 Ok (Ji K m (.ptr D 0) (I z) (I i) h) fun v h'=>Fh h' D S G/\Au G h h'/\HB h':=by
 intro m;induction m with
 | zero=>intro i h hm;omega
 | succ m p=>
  intro i h hm s hb;obtain⟨V,M,qc,qh,cs,t,ms,F,a⟩:=s.Mn;obtain⟨zl,A,q,b,_⟩:=a.dev.Mn;have e:=Azb (K:=K) b;have u:S.dv.size<=64:=a.dev.wf.size;simp only[I]at e;simp only[Ji,Aa,Cz a.Dd rfl,e,I,Ac];by_cases f:(i:Int)<S.dv.size
  ·simp only[f,aB,Aa,Abo,Cz a.Dd rfl]
   rw[Aw (l:=[I z,I i]) rfl];obtain⟨ms',e1,g⟩:=A4u a.map a.marks z i;unfold kp at e1;rw[e1,Ap];simp only[Abm,I,Ac];rw[Cg];obtain⟨s2,c2,j⟩:=s.Bkv a hb g;refine(p (i+1) _ (by omega) s2 j).mono ?_;rintro v h' ⟨y,c3,o⟩;exact⟨y,c2.trans c3,o⟩
  ·simp only[f,aA,Aa]
   exact .ret ⟨s,Au.refl _,hb⟩
end Go.Ev
