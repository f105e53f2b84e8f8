import Derived.Test.YtadnemjjlacolaaGreatXa
set_option linter.all false
namespace Go.Ev
open Go.Proofs
set_option maxRecDepth 100000
variable {F G:Nat->Prop}{h h' h1 h2:Ab}{K M V i n q' qc qh zl:Nat}{q:Nat->Nat}{op cnt:Int}{down:Bool}{Z:Zn}{k:EV->Ab->DX->R}{v cs hs:EV}{x:List EV}{ms ms':List (EV × EV)}{disp:Nat->Option FT}
section
def Bg(F:Nat->Prop)(h h':Ab):Nat->Prop:=fun i=>F i\/(h.next<=i/\i<h'.next)
theorem Av.grow(a:Av F h h1)(b:Av (Bg F h h1) h1 h2):Av F h h2:=
 a.then b fun i e f=>by
  rcases e with e|e
  ·exact e
  ·omega
theorem Bg.trans(a:h.next<=h1.next)(b:h1.next<=h2.next)(g:Bg (Bg F h h1) h1 h2 i):Bg F h h2 i:=by
 rcases g with(g|g)|g
 ·exact .inl g
 ·exact .inr ⟨g.1,by omega⟩
 ·exact .inr ⟨by omega,g.2⟩
theorem Bg.le(b:h1.next<=h2.next)(g:Bg F h h1 i):Bg F h h2 i:=by
 rcases g with g|g
 ·exact .inl g
 ·exact .inr ⟨g.1,by omega⟩
structure Dv where
 n:Nat
 size:Nat
 op:Int
 cnt:Int
 down:Bool
 zs:Nat->Zn
def Bh(l:List Nat):List EV:=l.map fun(b:Nat)=>EV.int .u8 (Int.ofNat b)
def U8(x:List EV):Prop:=∃l:List Nat,(∀b∈l,b<256)/\x=Bh l
theorem U8.zs:U8 Z2:=⟨List.replicate 64 0,fun b hb=>by rw[bP hb];decide,by unfold Bh Z2;rw[fI];rfl⟩
structure Zn.Wf(Z:Zn)(size:Nat):Prop where
 u8:∀x∈Z.l,U8 x
 st:Z.st<=4
 safe:Z.safe<=Z.l.length
 len:Z.l.length<=size
 room:Z.st<2->Z.l.length<size
structure Dv.Wf(D:Dv):Prop where
 size:D.size<=64
 n:D.n<=512
 zs:∀i,i<D.n->(D.zs i).Wf D.size
def A6i(V zl n:Nat)(z q:Nat->Nat)(zs:Nat->Zn):Nat->Prop:=fun i=>i=V\/i=zl\/∃d,d<n/\(i=z d\/((zs d).l≠[]/\i=q d))
structure It(h:Ab)(V:Nat)(D:Dv)(F:Nat->Prop):Prop where
 wf:D.Wf
 lt:∀i,F i->i<h.next
 Qu:∃zl z q,Oe h V zl D.n z q D.size D.op D.cnt D.down D.zs/\∀i,A6i V zl D.n z q D.zs i->F i
theorem It.mono{D:Dv}(d:It h V D F)(s:∀i,F i->G i)(l:∀i,G i->i<h.next):It h V D G:=by
 obtain⟨zl,z,q,a,b⟩:=d.Qu;exact⟨d.wf,l,zl,z,q,a,fun i e=>s i (b i e)⟩
theorem Bg.lt(l:∀i,F i->i<h.next)(n:h.next<=h'.next):∀i,Bg F h h' i->i<h'.next:=fun i a=>by
 rcases a with a|a
 ·have:=l i a;omega
 ·exact a.2
theorem It.grow{D:Dv}(d:It h' V D F)(l:∀i,F i->i<h.next)(n:h.next<=h'.next):It h' V D (Bg F h h'):=
 d.mono (fun _=>.inl) (Bg.lt l n)
theorem Axx {l:List (List EV)}:l≠[]↔0<l.length:=by rw[List.length_pos_iff]
theorem Oe.frame{z:Nat->Nat}{size:Int}{Zs:Nat->Zn}(d:Oe h V zl n z q size op cnt down Zs)(e:∀i,A6i V zl n z q Zs i->h'.get i=h.get i):Oe h' V zl n z q size op cnt down Zs:=by
 refine⟨d.pos,by rw[e _ (.inl rfl)];exact d.dev,by rw[e _ (.inr (.inl rfl))];exact d.row,fun i f=>?_,d.Baz,d.Bcu⟩;obtain⟨s,a,b⟩:=(d.Aj i f).Aj;exact⟨⟨s,by rw[e _ (.inr (.inr ⟨i,f,.inl rfl⟩))];exact a,b.frame fun g=>e _ (.inr (.inr ⟨i,f,.inr ⟨Axx.2 g,rfl⟩⟩))⟩,(d.Aj i f).wf⟩
theorem It.frame{D:Dv}(d:It h V D F)(n:h.next<=h'.next)(e:∀i,F i->h'.get i=h.get i):It h' V D F:=by
 obtain⟨zl,z,q,a,b⟩:=d.Qu;exact⟨d.wf,fun i f=>aK (d.lt i f) n,zl,z,q,a.frame fun i f=>e i (b i f),b⟩
theorem It.chg{D:Dv}{S:Nat->Prop}(d:It h V D F)(c:Av S h h')(n:∀i,F i->¬S i):It h' V D F:=
 d.frame c.next fun i a=>c.get i (d.lt i a) (n i a)
theorem It.ext{D:Dv}(d:It h V D F)(c:Ext h h'):It h' V D F:=d.chg c fun _ _=>id
theorem Oe.Bf0{z:Nat->Nat}{size:Int}{Zs:Nat->Zn}(d:Oe h V zl n z q size op cnt down Zs)(f:Int)(e:Bool):
 Oe (h.put V (.cells [.slice zl 0 n n true,I size,I op,I f,.bool e] 183)) V zl n z q size op f e Zs:=by
 refine⟨d.pos,Af _ _ _,?_,fun i g=>?_,d.Baz,d.Bcu⟩
 ·rw[Ag _ (Bb d.dev d.row (by simp))];exact d.row
 ·obtain⟨s,a,b⟩:=(d.Aj i g).Aj
  refine⟨⟨s,?_,b.frame fun j=>Ag _ (Bb d.dev (b.block j) (by simp))⟩,(d.Aj i g).wf⟩;rw[Ag _ (Bb d.dev a (by simp))];exact a
def Ki(Zs:Nat->Zn)(d:Nat)(Z:Zn):Nat->Zn:=fun e=>if e=d then Z else Zs e
def A53(q:Nat->Nat)(d x:Nat):Nat->Nat:=fun e=>if e=d then x else q e
theorem Oe.Bjo{z:Nat->Nat}{size:Int}{Zs:Nat->Zn}(d:Oe h V zl n z q size op cnt down Zs)(hb:HB h)(C:i<n)
 (L:Gh h' (z i) q' size Z) (c:Av (fun j=>j=z i\/((Zs i).l≠[]/\j=q i)) h h') (H:Z.l≠[]->h.next<=q'\/(q'=q i/\(Zs i).l≠[])) :
 Oe h' V zl n z (A53 q i q') size op cnt down (Ki Zs i Z):=by
 obtain⟨Q,E,bi⟩:=(d.Aj i C).Aj;have O:∀x o,h.get x=some o->(∀l,o≠.vec l 30 64)->¬((Zs i).l≠[]/\x=q i):=by
  rintro x o t m ⟨p,rfl⟩;rw[bi.block (Axx.1 p)]at t;cases t;exact m _ rfl
 have Gx:∀x o,h.get x=some o->x≠z i->(∀l,o≠.vec l 30 64)->h'.get x=some o:=fun x o t P m=>by
  refine c.at hb t ?_;rintro(y|y)
  ·exact P y
  ·exact O x o t m y
 refine⟨d.pos,Gx _ _ d.dev (Bb d.dev E (by simp)) (by intros;simp),Gx _ _ d.row (Bb d.row E (by simp)) (by intros;simp),fun j hj=>?_,d.Baz,?_⟩
 ·by_cases f:j=i
  ·subst f;simp only[A53,Ki,bM];exact L
  ·simp only[A53,Ki,f,bD]
   obtain⟨s,a,b⟩:=(d.Aj j hj).Aj;refine⟨⟨s,Gx _ _ a (fun e=>f (d.Baz j i hj C e)) (by intros;simp),b.frame fun p=>?_⟩,(d.Aj j hj).wf⟩;have J:=b.block p;refine c.get _ (hb _ _ J) ?_;rintro(y|⟨u,A⟩)
   ·exact Bb J E (by simp) y
   ·exact f (d.Bcu j i hj C (Axx.2 p) u A)
 ·intro j k hj B
  have lq:∀j,j<n->(Zs j).l≠[]->q j<h.next:=fun j hj p=>by
   obtain⟨s,a,b⟩:=(d.Aj j hj).Aj;exact hb _ _ (b.block (Axx.1 p))
  by_cases f:j=i<;>by_cases g:k=i
  ·intros;omega
  ·subst f;simp only[A53,Ki,g,bM,bD]
   intro a b e;rcases H a with y|⟨u,A⟩
   ·have:=lq k B b;omega
   ·exact absurd (d.Bcu j k hj B A b (by rw[<-u];exact e)).symm g
  ·subst g;simp only[A53,Ki,f,bM,bD]
   intro a b e;rcases H b with y|⟨u,A⟩
   ·have:=lq j hj a;omega
   ·exact absurd (d.Bcu j k hj B a A (by rw[<-u];exact e)) f
  ·simp only[A53,Ki,f,g,bD]
   exact d.Bcu j k hj B
def Dv.has(D:Dv)(i:Int):Bool:=decide (0<=i/\i<D.n)
def Dv.Fs(D:Dv)(i:Int):Int:=if D.down=true then 34 else if D.has i=false then 13 else 0
noncomputable def Dv.tick(D:Dv):Dv:={ D with cnt:=Dz .i64 (D.cnt+1) }
noncomputable def Dv.begin(D:Dv)(i:Int):Dv:=if D.Fs i=0 then D.tick else D
def Dv.set(D:Dv)(i:Nat)(Z:Zn):Dv:={ D with zs:=Ki D.zs i Z }
section
variable{z:Nat->Nat}{size:Int}{Zs:Nat->Zn}(d:Oe h V zl n z q size op cnt down Zs)
include d
theorem Oe.list(k:EV->R):Fm (.ptr V 0) h k=k (.slice zl 0 n n true):=by rw[C8 d.dev rfl];rfl
theorem Oe.Bmu(a:i<n)(k:EV->R):Z8 1 (.slice zl 0 n n true) (I i) (fun v=>Fm v h k)=k (.ptr (z i) 0):=by
 unfold I;rw[Lv a,C8 d.row rfl,bJ,bZ,bG,cM a];rfl
theorem Bex(i:Int):Kj K (.ptr V 0) (I i) h=some (.bool (decide (0<=i/\i<n)),h):=by
 simp only[Kj,I,Ac,Aa];by_cases h0:0<=i
 ·simp only[h0,aB,Aa,Ac,d.list,Aat,gO]
 ·simp only[h0,aA,Aa,Aat,gN]
end
section
variable{D:Dv}(d:It h V D F)(hb:HB h)
include d
theorem Aps(i:Int):Kj K (.ptr V 0) (I i) h=some (.bool (D.has i),h):=by
 obtain⟨w,wl,zl,z,q,a,b⟩:=d;exact Bex a i
theorem A8z(i:Int):L7 K (.ptr V 0) (I i) h=some (I (if D.has i=true then(D.zs i.toNat).st else 4),h):=by
 simp only[L7,Aps d,Aa];obtain⟨w,wl,zl,z,q,a,b⟩:=d;cases e:D.has i with
 | false=>simp only[Aa,I,ak,bD]
 | true=>
  have:=dN e;obtain⟨j,rfl⟩:∃j:Nat,i=j:=⟨i.toNat,by omega⟩;have hj:j<D.n:=by omega
  simp only[Aa,Afj,a.list,a.Bmu hj,Anv (a.Aj j hj),bM];rfl
include hb
theorem Ai3(i:Int):Ok (Jk K (.ptr V 0) (I i) h) fun v h'=>v=I (D.Fs i)/\It h' V (D.begin i) F/\Av F h h'/\HB h'/\h'.next=h.next:=by
 have f:=Aps (K:=K) d i;obtain⟨w,wl,zl,z,q,a,b⟩:=d;unfold Dv.begin Dv.Fs;simp only[Jk,Aa,C8 a.dev rfl];cases hd:D.down with
 | true=>
  simp only[Aa,bM,show((34:Int)=0)=False by simp,bD];exact .ret ⟨rfl,⟨w,wl,zl,z,q,a,b⟩,Av.refl _,hb,rfl⟩
 | false=>
  simp only[Aa,f,ak,bD];cases g:D.has i with
  | false=>
   simp only[Aa,bM,show((13:Int)=0)=False by simp,bD];exact .ret ⟨rfl,⟨w,wl,zl,z,q,a,b⟩,Av.refl _,hb,rfl⟩
  | true=>
   simp only[Aa,fK,bD,bM,Afu,C8 a.dev rfl,I,Ac];have e:=hb _ _ a.dev;refine Ok.st1 a.dev rfl rfl (by show 3<5;decide) ?_;refine .ret ⟨rfl,⟨⟨w.size,w.n,w.zs⟩,wl,zl,z,q,a.Bf0 (Dz .i64 (D.cnt+1)) D.down,b⟩,(Av.refl h).Ar (.inl (b _ (.inl rfl))) e _,hb.put e _,rfl⟩
end
end
variable {D dv:Dv}
theorem A66 {b:Nat}{s:DX}{call:Ab->R}(hb:Aj0 b s=true)(a:loose b s.nw = [])(e:call h.lift=some (v,h.lift)):L5 i b s h call k=k v h (s.big i):=by
 have f:Mx b s h=h.lift:=by unfold Mx;rw[a];rfl
 show Bf (Aj0 b s) (Ev.An (call (Mx b s h)) fun v h'=>Th i b s h h' fun s h=>k v h s) none=_;rw[hb,Ak,f,e];show Th i b s h h.lift (fun s h=>k v h s)=_;unfold Th;rw[aS (show h.next<=h.lift.mw from aE _),Ak,a];rfl
theorem Aqs {b:Nat}{s:DX}{call:Ab->R}(a:call h.lift=some (v,h.lift))(hb:Aj0 b s=true:=by kernel_rfl)(e:loose b s.nw = []:=by kernel_rfl):L5 i b s h call k=k v h (s.big i):=A66 hb e a
theorem Oe.lift{z:Nat->Nat}{size:Int}{Zs:Nat->Zn}(d:Oe h V zl n z q size op cnt down Zs):Oe h.lift V zl n z q size op cnt down Zs:=d.frame fun i _=>Ci h i
theorem It.lift(d:It h V D F):It h.lift V D F:=d.frame (aE _) fun i _=>Ci h i
def Wm(Zs:Nat->Zn)(n:Nat):Nat:=((List.range n).filter fun i=>(Zs i).st=1).length
theorem Axs(Zs:Nat->Zn)(n:Nat):Wm Zs (n+1)=Wm Zs n+(if(Zs n).st=1 then 1 else 0):=by
 unfold Wm;rw[dA,eT,aH];congr 1;by_cases a:(Zs n).st=1<;>simp[a]
theorem Bpz(Zs:Nat->Zn)(n:Nat):Wm Zs n<=n:=by
 unfold Wm;have:=eU (fun i=>decide ((Zs i).st=1)) (List.range n);simpa using this
theorem Bda{z:Nat->Nat}{size:Int}{Zs:Nat->Zn}(d:Oe h V zl n z q size op cnt down Zs)(j:n<=512):∀(m i:Nat),n-i<m->i<=n ->
 Kr K m (I (Wm Zs i)) (.slice zl 0 n n true) (I n) (I i) h=some (I (Wm Zs n),h):=by
 intro m;induction m with
 | zero=>intro i hm;omega
 | succ m g=>
  intro i hm o;simp only[Kr,I,Ac,Aa];by_cases b:(i:Int)<n
  ·have e:i<n:=by omega
   have f:=d.Bmu e;simp only[I]at f;have hle:=Bpz Zs i;simp only[b,aB,Aa,Ad8,f,Anv (d.Aj i e),I,Ac];have a:=g (i+1) (by omega) (by omega);rw[Axs]at a;by_cases h1:(Zs i).st=1
   ·rw[show decide (((Zs i).st:Int)=1)=true by simp[h1]]
    rw[aG h1]at a;simp only[Aa,Ac,Vd];rw[Cj,Cj];exact a
   ·rw[show decide (((Zs i).st:Int)=1)=false by simp;omega]
    rw[aF h1]at a;simp only[Aa,Ac,Vd];rw[Cj];exact a
  ·have:i=n:=by omega
   subst this;simp only[b,aA,Aa,Ad7]
theorem Blv{z:Nat->Nat}{size:Int}{Zs:Nat->Zn}(d:Oe h V zl n z q size op cnt down Zs)(a:n<=512)(b:1000<K):
 S9 K (.ptr V 0) h=some (I (Wm Zs n),h):=by
 simp only[S9,Aa,d.list];exact Bda d a K 0 (by omega) (cQ _)
noncomputable def Dv.append(D:Dv)(i:Int)(x:List EV):Dv × Int × Int:=
 if D.Fs i≠0 then(D,0,D.Fs i)else
 if(D.zs i.toNat).st=0/\D.op<=Wm D.zs D.n then(D.tick,0,33)else
 if 2<=(D.zs i.toNat).st then(D.tick,0,if(D.zs i.toNat).st=2 then 17 else Na (D.zs i.toNat).st)else
 (D.tick.set i.toNat ((D.zs i.toNat).app D.size x),(D.zs i.toNat).l.length,0)
theorem Zn.Wf.app{size:Nat}(w:Z.Wf size)(hs:Z.st<2)(b:U8 x):(Z.app size x).Wf size:=by
 have:=w.room hs;have:=w.safe;refine⟨fun y a=>?_,?_,?_,?_,?_⟩<;>try simp only[Zn.app,aH,List.length_singleton]
 ·rcases bO.1 a with a|a
  ·exact w.u8 y a
  ·rw[aO.1 a];exact b
 ·split<;>omega
 ·omega
 ·omega
 ·split<;>omega
theorem Dv.Wf.set(w:D.Wf)(z:Z.Wf D.size):(D.set i Z).Wf:=by
 refine⟨w.size,w.n,fun j hj=>?_⟩;show(Ki D.zs i Z j).Wf D.size;unfold Ki;split
 ·exact z
 ·exact w.zs j hj
theorem It.Aj(w:D.Wf){z:Nat->Nat}(a:Oe h V zl D.n z q D.size D.op D.cnt D.down D.zs)(b:∀i,A6i V zl D.n z q D.zs i->F i)(wl:∀i,F i->i<h.next)(hb:HB h)(m:i<D.n)
 (A:Z.Wf D.size) (p:Gh h' (z i) q' D.size Z) (c:Av (fun j=>j=z i\/((D.zs i).l≠[]/\j=q i)) h h') (o:HB h') (t:Z.l≠[]->h.next<=q'\/(q'=q i/\(D.zs i).l≠[])) :
 It h' V (D.set i Z) (Bg F h h')/\Av F h h':=by
 have u:∀j,(j=z i\/((D.zs i).l≠[]/\j=q i))->F j:=by
  rintro j (y|⟨e,f⟩)
  ·exact b j (.inr (.inr ⟨i,m,.inl y⟩))
  ·exact b j (.inr (.inr ⟨i,m,.inr ⟨e,f⟩⟩))
 refine⟨⟨w.set A,Bg.lt wl c.next,zl,z,_,a.Bjo hb m p c t,?_⟩,c.mono u⟩;rintro j (y|y|⟨d,hd,y⟩)
 ·exact .inl (b j (.inl y))
 ·exact .inl (b j (.inr (.inl y)))
 ·rcases y with y|⟨e,f⟩
  ·exact .inl (b j (.inr (.inr ⟨d,hd,.inl y⟩)))
  ·by_cases g:d=i
   ·subst g
    simp only[Dv.set,Ki,A53,bM]at e f;subst f;rcases t e with y|⟨B,C⟩
    ·obtain⟨s,_,r⟩:=p.Aj
     exact .inr ⟨y,o _ _ (r.block (Axx.1 e))⟩
    ·rw[B];exact .inl (u _ (.inr ⟨C,rfl⟩))
   ·simp only[Dv.set,Ki,A53,g,bD]at e f
    exact .inl (b j (.inr (.inr ⟨d,hd,.inr ⟨e,f⟩⟩)))
theorem A6p(d:It h V D F)(hb:HB h)(hK:1000<K)(i:Int)(hx:x.length=64)(hu:U8 x):
 Ok (To K (.ptr V 0) (I i) (.agg x) h) fun v h'=>v=.tuple [I (D.append i x).2.1,I (D.append i x).2.2]/\It h' V (D.append i x).1 (Bg F h h')/\Av F h h'/\HB h':=by
 simp only[To,Aa];have T:Ext h (h.new (.cells x 30)):=Av.new _ _;have g5:(h.new (.cells x 30)).get h.next=some (.cells x 30):=Ad _ _
 have u:HB (h.new (.cells x 30)):=hb.new _;have d1:=d.ext T;have n1:(h.new (.cells x 30)).next=h.next+1:=rfl
 generalize h.new (.cells x 30)=h1 at T g5 u d1 n1⊢;refine(Ai3 (K:=K) d1 u i).An ?_;rintro _ h2 ⟨rfl,d2,c2,f,n2⟩;have nx:¬F h.next:=fun y=>bS _ (d.lt _ y)
 have g5:=c2.at u g5 nx;have m:Av F h h2:=(Ext.to T).trans c2;unfold Dv.append;unfold Dv.begin at d2;by_cases e:D.Fs i=0
 ·rw[aG e]at d2
  rw[aF (by rw[e];exact fun y=>y rfl),e];simp only[I,Ac,aD,aA,Aa,Aed];obtain⟨w,wl,zl,z,q,a,b⟩:=d2;have B:D.has i=true:=by
   unfold Dv.Fs at e;cases hh:D.has i with
   | true=>rfl
   | false=>rw[hh]at e;split at e<;>simp at e
  have:=dN B;obtain⟨j,rfl⟩:∃j:Nat,i=j:=⟨i.toNat,by omega⟩;have hj:j<D.n:=by omega
  rw[show(j:Int).toNat=j from rfl];have U:=f _ _ a.dev;have C:=f _ _ a.row;have l5:=f _ _ g5;have lz:=f _ _ (a.Aj j hj).Aj.choose_spec.1;have E:∀k:EV->R,Fm (.ptr zl j) h2 k=k (.ptr (z j) 0):=fun k=>by
   have:=a.Bmu hj k;unfold I at this;rw[Lv (show j<D.tick.n from hj),bJ,bZ]at this;exact this
  have H:∀k:EV->R,Z8 1 (.slice zl 0 D.tick.n D.tick.n true) (.int .i64 (j:Int)) k=k (.ptr zl j):=fun k=>by
   rw[Lv (show j<D.tick.n from hj),bJ,bZ]
  simp only[Aa,Aw,Cv U,a.list,H,Cv C,E];rw[Aqs (Anv (a.lift.Aj j hj))];have W:=Blv (K:=K) a.lift w.n hK;have dd:∀h',Ext h2 h'->It h' V D.tick (Bg F h h')/\Av F h h'/\HB h':=fun h' P=>⟨(It.ext ⟨w,wl,zl,z,q,a,b⟩ P).grow d.lt (by have:=m.next;have:=P.next;omega),m.trans (Ext.to P),P.hb f⟩
  have app:¬((D.zs j).st=0/\D.op<=Wm D.zs D.n)->Ok (Vb K (.ptr V 0) (I j) (.ptr h.next 0) h2) fun v h'=>v=.tuple [I (if(D.zs j).st=0/\D.op<=Wm D.zs D.n then(D.tick,0,33)else if 2<=(D.zs j).st then(D.tick,0,if(D.zs j).st=2 then 17 else Na (D.zs j).st)else(D.tick.set j ((D.zs j).app D.size x),((D.zs j).l.length:Int),(0:Int))).2.1,I (if(D.zs j).st=0/\D.op<=Wm D.zs D.n then(D.tick,0,33)else if 2<=(D.zs j).st then(D.tick,0,if(D.zs j).st=2 then 17 else Na (D.zs j).st)else(D.tick.set j ((D.zs j).app D.size x),((D.zs j).l.length:Int),(0:Int))).2.2]/\It h' V (if(D.zs j).st=0/\D.op<=Wm D.zs D.n then(D.tick,0,33)else if 2<=(D.zs j).st then(D.tick,0,if(D.zs j).st=2 then 17 else Na (D.zs j).st)else(D.tick.set j ((D.zs j).app D.size x),((D.zs j).l.length:Int),(0:Int))).1 (Bg F h h')/\Av F h h'/\HB h':=by
   intro X;rw[aF X];simp only[Vb,I,Aa,Aw,Cv U,a.list,H,Cv C,E,Cv l5,Db g5 rfl,Ai hx];have Y:=w.zs j hj;have aa:=w.size;have ab:=Y.len;by_cases A:2<=(D.zs j).st
   ·rw[aG A]
    refine Ok.bE (A4c (K:=K) (a.lift.Aj j hj) (D4 f) A Y.st x) (fun _ _ p=>p.2) ?_;rintro _ h3 h4 ⟨rfl,_⟩ sm x4;simp only[Aa];exact .ret ⟨rfl,dd h4 x4⟩
   ·rw[aF A]
    have t:(D.zs j).st<2:=by omega
    refine Ok.Bpc (S:=fun i=>i=z j\/(0<(D.zs j).l.length/\i=q j)) (by kernel_rfl) (by kernel_rfl) (fun _=>by kernel_rfl) (A4n (K:=K) (size:=D.size) (a.lift.Aj j hj) (D4 f) t (bN ab aa) hx) (fun _ _ p=>p.2.2.1) ?_;rintro _ h3 h4 s' ⟨rfl,⟨q',zz,J⟩,_,ad⟩ sm c4 _;simp only[Aa];have L:=sm.hb ad;have ae:Gh h4 (z j) q' D.size ((D.zs j).app D.size x):=zz.ext fun i o g=>by rw[sm.get];exact g
    obtain⟨d4,O⟩:=It.Aj w a b wl f hj (Y.app t hu) ae (c4.mono fun i hi=>by
     rcases hi with y|⟨y1,y2⟩
     ·exact .inl y
     ·exact .inr ⟨Axx.2 y1,y2⟩) L (fun _=>.inl (by rw[Ao7]at J;exact J))
    refine .ret ⟨rfl,?_,m.trans O,L⟩;refine d4.mono (fun i hi=>?_) (Bg.lt d.lt (m.trans O).next);rcases hi with y|y
    ·exact .inl y
    ·exact .inr ⟨bN m.next y.1,y.2⟩
  simp only[I,Ac];by_cases h0:(D.zs j).st=0
  ·rw[show decide (((D.tick.zs j).st:Int)=0)=true from aM (by show((D.zs j).st:Int)=0;omega)]
   simp only[Aa,Ac];rw[Aqs W];rw[Ku U,C8 a.dev rfl];simp only[Aa,I,Ac,Ox];by_cases Q:D.op<=Wm D.zs D.n
   ·rw[show decide (D.tick.op<=((Wm D.tick.zs D.tick.n:Nat):Int))=true from aM Q]
    simp only[Aa];rw[aG ⟨h0,Q⟩];exact .ret ⟨rfl,dd h2 (Av.refl _)⟩
   ·rw[show decide (D.tick.op<=((Wm D.tick.zs D.tick.n:Nat):Int))=false from aP Q]
    simp only[Aa];exact app fun y=>Q y.2
  ·rw[show decide (((D.tick.zs j).st:Int)=0)=false from aP (by show ¬((D.zs j).st:Int)=0;omega)]
   simp only[Aa,Ac,Ox];exact app fun y=>h0 y.1
 ·rw[aF e]at d2
  rw[aG e];simp only[I,Ac,e,aN,aB,Aa];exact .ret ⟨rfl,d2.grow d.lt m.next,m,f⟩
def Dv.read(D:Dv)(i off:Int):List EV × Int:=if D.Fs i≠0 then(Z2,D.Fs i)else Ak4 (D.zs i.toNat) off
theorem Dv.Bam{i:Int}(a:D.Fs i=0):∃j:Nat,i=j/\j<D.n:=by
 have b:D.has i=true:=by
  unfold Dv.Fs at a;cases e:D.has i with
  | true=>rfl
  | false=>rw[e]at a;split at a<;>simp at a
 have:=dN b;exact⟨i.toNat,by omega,by omega⟩
theorem Oe.Be3{z:Nat->Nat}{size:Int}{Zs:Nat->Zn}(d:Oe h V zl n z q size op cnt down Zs){j:Nat}(hj:j<n):
 (∀k:EV->R,Z8 1 (.slice zl 0 n n true) (.int .i64 (j:Int)) k=k (.ptr zl j))/\(∀k:EV->R,Fm (.ptr zl j) h k=k (.ptr (z j) 0)):=by
 have a:∀k:EV->R,Z8 1 (.slice zl 0 n n true) (.int .i64 (j:Int)) k=k (.ptr zl j):=fun k=>by
  rw[Lv hj,bJ,bZ]
 refine⟨a,fun k=>?_⟩;have:=d.Bmu hj k;unfold I at this;rw[a]at this;exact this
theorem Bef(d:It h V D F)(hb:HB h)(i off:Int):
 Ok (Yy K (.ptr V 0) (I i) (I off) h) fun v h'=>v=.tuple [.agg (D.read i off).1,I (D.read i off).2]/\(D.read i off).1.length=64/\It h' V (D.begin i) (Bg F h h')/\Av F h h'/\HB h':=by
 simp only[Yy,Aa];have B:Ext h (h.new (.cells (List.replicate 64 (.int .u8 0)) 30)):=Av.new _ _;have u:(h.new (.cells (List.replicate 64 (.int .u8 0)) 30)).get h.next=some (.cells Z2 30):=Ad _ _
 have m:HB (h.new (.cells (List.replicate 64 (.int .u8 0)) 30)):=hb.new _;have d1:=d.ext B;generalize h.new (.cells (List.replicate 64 (.int .u8 0)) 30)=h1 at B u m d1⊢;refine(Ai3 (K:=K) d1 m i).An ?_;rintro _ h2 ⟨rfl,d2,c2,o,T⟩;have nx:¬F h.next:=fun y=>bS _ (d.lt _ y)
 have u:=c2.at m u nx;have C:Av F h h2:=(Ext.to B).trans c2;have fin:∀(l:List EV) (e:Int) (g:Ab),Ext h2 g->l.length=64->Ok (stE 64 (.ptr h.next 0) (.agg l) g fun h=>Ji TT [.c (.ptr h.next 0) 30,.v (I e)] h) (fun _ _=>True)->True:=fun _ _ _ _ _ _=>trivial
 clear fin;have fin:∀(l:List EV) (e:Int) (g:Ab) (E:Ab->R),(∀h',E h'=Ji TT [.c (.ptr h.next 0) 30,.v (I e)] h')->Ext h2 g->l.length=64->(l,e)=D.read i off->Ok (stE 64 (.ptr h.next 0) (.agg l) g E) fun v h'=>v=.tuple [.agg (D.read i off).1,I (D.read i off).2]/\(D.read i off).1.length=64/\It h' V (D.begin i) (Bg F h h')/\Av F h h'/\HB h':=by
  intro l e g E H p A he;have t:=p.hb o;have P:=p.at o u;refine Ok.st l P rfl (by rw[show EV.cells (.agg l)=l from rfl,Bc,A]) (Bm (by rw[Nc];exact A.symm)) ?_;rw[H,Gg (Af _ _ _) A26.1 A26.2 A,<-he];have Q:=t _ _ P;have c3:Av F h (g.put h.next (.cells l 30)):=(C.trans (Ext.to p)).Ar (.inr (aE _)) Q _;refine .ret ⟨rfl,A,?_,c3,t.put Q _⟩;refine(((d2.ext p).frame (h':=g.put h.next (.cells l 30)) (aE _) fun j hj=>Ag _ fun y=>?_)).grow d.lt c3.next
  subst y;exact nx hj
 unfold Dv.read at fin⊢;by_cases f:D.Fs i=0
 ·rw[aF (by rw[f];exact fun y=>y rfl)]at fin⊢
  have J:D.begin i=D.tick:=by unfold Dv.begin;rw[aG f]
  rw[J]at d2 fin⊢;rw[f];obtain⟨j,rfl,hj⟩:=Dv.Bam f;obtain⟨zl,z,q,a,b⟩:=d2.Qu;obtain⟨L,O⟩:=a.Be3 (j:=j) hj;simp only[I,Ac,aD,aA,Aa,Ahm,a.list,L,O];refine(Ba4 (K:=K) (a.Aj j hj) o off).An ?_;rintro _ g ⟨rfl,p⟩;simp only[Aa];exact fin _ _ g _ (fun _=>rfl) p (Bl7 (a.Aj j hj).wf off) rfl
 ·rw[aG f]at fin⊢
  simp only[I,Ac,f,aN,aB,Aa];rw[Ay (l:=Z2) rfl];exact fin Z2 (D.Fs i) h2 _ (fun _=>rfl) (Av.refl _) Nc rfl
noncomputable def Dv.finish(D:Dv)(i:Int):Dv × Int:=
 if D.Fs i≠0 then(D,D.Fs i)else
 (if Na (D.zs i.toNat).st=0 then D.tick.set i.toNat (D.zs i.toNat).finish else D.tick,Na (D.zs i.toNat).st)
theorem Zn.Wf.finish{size:Nat}(w:Z.Wf size):Z.finish.Wf size:=⟨w.u8,by show 2<=4;omega,w.safe,w.len,fun y=>absurd y (by show ¬2<2;omega)⟩
theorem A6r(d:It h V D F)(hb:HB h)(i:Int):
 Ok (Ti K (.ptr V 0) (I i) h) fun v h'=>v=I (D.finish i).2/\It h' V (D.finish i).1 (Bg F h h')/\Av F h h'/\HB h':=by
 simp only[Ti,dr];refine(Ai3 (K:=K) d hb i).An ?_;rintro _ h2 ⟨rfl,d2,c2,m,H⟩;unfold Dv.finish;by_cases f:D.Fs i=0
 ·rw[aF (by rw[f];exact fun y=>y rfl),f]
  have p:D.begin i=D.tick:=by unfold Dv.begin;rw[aG f]
  rw[p]at d2;obtain⟨j,rfl,hj⟩:=Dv.Bam f;obtain⟨zl,z,q,a,b⟩:=d2.Qu;obtain⟨u,A⟩:=a.Be3 (j:=j) hj;simp only[I,Ac,aD,aA,Aa,Ad1,a.list,u,A];refine(A32 (K:=K) (a.Aj j hj) m).An ?_;rintro _ B ⟨rfl,t,c3,o⟩
  try simp only[Aa]
  rw[show(j:Int).toNat=j from rfl];have t:Gh B (z j) (q j) D.size (if Na (D.zs j).st=0 then(D.zs j).finish else D.zs j):=t;by_cases C:Na (D.zs j).st=0
  ·simp only[C,bM]at t⊢
   obtain⟨d3,g⟩:=It.Aj d2.wf a b d2.lt m hj (d2.wf.zs j hj).finish t (c3.mono fun _=>.inl) o (fun y=>.inr ⟨rfl,y⟩);refine .ret ⟨by rw[show Na (D.tick.zs j).st=Na (D.zs j).st from rfl,C],d3.mono (fun i E=>?_) (Bg.lt d.lt (c2.trans g).next),c2.trans g,o⟩;rcases E with y|y
   ·exact .inl y
   ·exact .inr ⟨bN c2.next y.1,y.2⟩
  ·simp only[C,bD]at t⊢
   obtain⟨d3,g⟩:=It.Aj d2.wf a b d2.lt m hj (d2.wf.zs j hj) t (c3.mono fun _=>.inl) o (fun y=>.inr ⟨rfl,y⟩);have e:D.tick.set j (D.zs j)=D.tick:=by
    unfold Dv.set;have:Ki D.tick.zs j (D.zs j)=D.tick.zs:=by funext k;unfold Ki;split<;>simp_all [Dv.tick]
    rw[this]
   have d3:It B V (D.tick.set j (D.zs j)) (Bg F h2 B):=d3;rw[e]at d3;refine .ret ⟨rfl,d3.mono (fun i E=>?_) (Bg.lt d.lt (c2.trans g).next),c2.trans g,o⟩;rcases E with y|y
   ·exact .inl y
   ·exact .inr ⟨bN c2.next y.1,y.2⟩
 ·rw[aG f]
  have p:D.begin i=D:=by unfold Dv.begin;rw[aF f]
  rw[p]at d2;simp only[I,Ac,f,aN,aB,Aa];exact .ret ⟨rfl,d2.grow d.lt c2.next,c2,m⟩
noncomputable def Dv.Bto(D:Dv):Dv:={ D with down:=true }
theorem A85(d:It h V D F)(hb:HB h):
 Ok (V9 K (.ptr V 0) h) fun v h'=>It h' V D.Bto F/\Av F h h'/\HB h':=by
 obtain⟨w,wl,zl,z,q,a,b⟩:=d;simp only[V9,Aa];have e:=hb _ _ a.dev;refine Ok.st1 a.dev rfl rfl (by show 4<5;decide) ?_;exact .ret ⟨⟨⟨w.size,w.n,w.zs⟩,wl,zl,z,q,a.Bf0 D.cnt true,b⟩,(Av.refl h).Ar (.inl (b _ (.inl rfl))) e _,hb.put e _⟩
structure Av2(h:Ab)(V zl:Nat)(z:Nat->Nat)(D:Dv)(F:Nat->Prop):Prop where
 wf:D.Wf
 lt:∀i,F i->i<h.next
 Qu:∃q,Oe h V zl D.n z q D.size D.op D.cnt D.down D.zs/\∀i,A6i V zl D.n z q D.zs i->F i
theorem It.z(d:It h V D F):∃zl z,Av2 h V zl z D F:=by
 obtain⟨zl,z,q,a,b⟩:=d.Qu;exact⟨zl,z,d.wf,d.lt,q,a,b⟩
theorem Av2.s{z:Nat->Nat}(d:Av2 h V zl z D F):It h V D F:=by
 obtain⟨q,a,b⟩:=d.Qu;exact⟨d.wf,d.lt,zl,z,q,a,b⟩
theorem Av2.mono{z:Nat->Nat}(d:Av2 h V zl z D F)(s:∀i,F i->G i)(l:∀i,G i->i<h.next):Av2 h V zl z D G:=by
 obtain⟨q,a,b⟩:=d.Qu;exact⟨d.wf,l,q,a,fun i e=>s i (b i e)⟩
theorem Av2.congr{z:Nat->Nat}(d:Av2 h V zl z D F){zs':Nat->Zn}(e:∀i,i<D.n->zs' i=D.zs i):Av2 h V zl z { D with zs:=zs' } F:=by
 obtain⟨q,a,b⟩:=d.Qu;refine⟨⟨d.wf.size,d.wf.n,fun i f=>?_⟩,d.lt,q,⟨a.pos,a.dev,a.row,fun i f=>?_,a.Baz,fun i j f hj=>?_⟩,?_⟩
 ·show(zs' i).Wf _;rw[e i f];exact d.wf.zs i f
 ·show Gh _ _ _ _ (zs' i);rw[e i f];exact a.Aj i f
 ·show(zs' i).l≠[]->(zs' j).l≠[]->_;rw[e i f,e j hj];exact a.Bcu i j f hj
 ·rintro i (y|y|⟨k,g,y⟩)
  ·exact b i (.inl y)
  ·exact b i (.inr (.inl y))
  ·refine b i (.inr (.inr ⟨k,g,?_⟩))
   have y:i=z k\/(zs' k).l≠[]/\i=q k:=y;rw[e k g]at y;exact y
theorem Av2.Aj{z:Nat->Nat}(d:Av2 h V zl z D F)(a:Oe h V zl D.n z q D.size D.op D.cnt D.down D.zs)(b:∀i,A6i V zl D.n z q D.zs i->F i)(hb:HB h)(m:i<D.n)
 (A:Z.Wf D.size) (p:Gh h' (z i) q' D.size Z) (c:Av (fun j=>j=z i\/((D.zs i).l≠[]/\j=q i)) h h') (o:HB h') (t:Z.l≠[]->h.next<=q'\/(q'=q i/\(D.zs i).l≠[])) :
 Av2 h' V zl z (D.set i Z) (Bg F h h')/\Av F h h':=by
 have u:∀j,(j=z i\/((D.zs i).l≠[]/\j=q i))->F j:=by
  rintro j (y|⟨e,f⟩)
  ·exact b j (.inr (.inr ⟨i,m,.inl y⟩))
  ·exact b j (.inr (.inr ⟨i,m,.inr ⟨e,f⟩⟩))
 refine⟨⟨d.wf.set A,Bg.lt d.lt c.next,_,a.Bjo hb m p c t,?_⟩,c.mono u⟩;rintro j (y|y|⟨d,hd,y⟩)
 ·exact .inl (b j (.inl y))
 ·exact .inl (b j (.inr (.inl y)))
 ·rcases y with y|⟨e,f⟩
  ·exact .inl (b j (.inr (.inr ⟨d,hd,.inl y⟩)))
  ·by_cases g:d=i
   ·subst g
    simp only[Dv.set,Ki,A53,bM]at e f;subst f;rcases t e with y|⟨B,C⟩
    ·obtain⟨s,_,r⟩:=p.Aj
     exact .inr ⟨y,o _ _ (r.block (Axx.1 e))⟩
    ·rw[B];exact .inl (u _ (.inr ⟨C,rfl⟩))
   ·simp only[Dv.set,Ki,A53,g,bD]at e f
    exact .inl (b j (.inr (.inr ⟨d,hd,.inr ⟨e,f⟩⟩)))
def A14(f:Nat->Zn->Zn)(zs:Nat->Zn)(i:Nat):Nat->Zn:=fun j=>if j<i then f j (zs j)else zs j
theorem Bf6(f:Nat->Zn->Zn)(zs:Nat->Zn)(i:Nat):A14 f zs (i+1)=Ki (A14 f zs i) i (f i (zs i)):=by
 funext j;unfold A14 Ki;by_cases h1:j=i
 ·subst h1;simp
 ·by_cases h2:j<i
  ·rw[aG (by omega),aF h1];exact(aG h2).symm
  ·rw[aF (by omega),aF h1];exact(aF h2).symm
theorem Bbw(f:Nat->Zn->Zn)(zs:Nat->Zn)(i:Nat):A14 f zs i i=zs i:=by unfold A14;rw[aF (by omega)]
noncomputable def Dv.flush(D:Dv):Dv × Int:=if D.down=true then(D,34)else({ D.tick with zs:=fun i=>(D.zs i).flush },0)
theorem Zn.Wf.flush{size:Nat}(w:Z.Wf size):Z.flush.Wf size:=⟨w.u8,w.st,aE _,w.len,w.room⟩
theorem Bhj{z:Nat->Nat}(h0:Ab)(o:∀j,F j->j<h0.next):∀(m i:Nat) (h:Ab),D.n-i<m->i<=D.n->HB h->Av F h0 h->Av2 h V zl z { D with zs:=A14 (fun _ Z=>Z.flush) D.zs i } (Bg F h0 h) ->
 Ok (Lq K m (.slice zl 0 D.n D.n true) (I D.n) (I i) h) fun v h'=>v=I 0/\Av2 h' V zl z { D with zs:=A14 (fun _ Z=>Z.flush) D.zs D.n } (Bg F h0 h')/\Av F h0 h'/\HB h':=by
 intro m;induction m with
 | zero=>intro i h hm;omega
 | succ m E=>
  intro i h hm J hb c d;have A:=d.wf.n;have A:D.n<=512:=A;simp only[Lq,I,Ac,Aa];by_cases f:(i:Int)<D.n
  ·have e:i<D.n:=by omega
   obtain⟨q,a,b⟩:=d.Qu;obtain⟨p,t⟩:=a.Be3 (j:=i) e;simp only[f,aB,Aa,Agn,p,t];have B:=a.Aj i e;have C:=d.wf.zs i e;simp only[Bbw]at B C;refine(A6w (K:=K) B hb).An ?_;rintro _ h1 ⟨H,c1,g⟩;simp only[Afe,I,Ac];rw[Cj];obtain⟨d1,u⟩:=d.Aj a b hb e C.flush H (c1.mono fun _=>.inl) g (fun y=>.inr ⟨rfl,by simp only[Bbw];exact y⟩);have c2:=c.grow u;refine E (i+1) h1 (by omega) (by omega) g c2 ?_;rw[Bf6];exact d1.mono (fun j hj=>Bg.trans c.next c1.next hj) (Bg.lt o c2.next)
  ·have:i=D.n:=by omega
   subst this;simp only[f,aA,Aa,Agk];exact .ret ⟨rfl,d,c,hb⟩
theorem Bbc(d:It h V D F)(hb:HB h)(o:1000<K):
 Ok (Wo K (.ptr V 0) h) fun v h'=>v=I D.flush.2/\It h' V D.flush.1 (Bg F h h')/\Av F h h'/\HB h':=by
 obtain⟨w,wl,zl,z,q,a,b⟩:=d;have p:=w.n;unfold Dv.flush;simp only[Wo,Aa,C8 a.dev rfl];cases hd:D.down with
 | true=>
  simp only[Aa,bM];exact .ret ⟨rfl,It.grow ⟨w,wl,zl,z,q,a,b⟩ wl (aE _),Av.refl _,hb⟩
 | false=>
  simp only[Aa,ak,bD,Afh,C8 a.dev rfl,I,Ac];have g:=hb _ _ a.dev;refine Ok.st1 a.dev rfl rfl (by show 3<5;decide) ?_;have c1:Av F h (h.put V (.cells ([EV.slice zl 0 D.n D.n true,I D.size,I D.op,I D.cnt,.bool D.down].set 3 (.int .i64 (Dz .i64 (D.cnt+1)))) 183)):=(Av.refl h).Ar (.inl (b _ (.inl rfl))) g _;have e:HB (h.put V (.cells ([EV.slice zl 0 D.n D.n true,I D.size,I D.op,I D.cnt,.bool D.down].set 3 (.int .i64 (Dz .i64 (D.cnt+1)))) 183)):=hb.put g _;have d1:Av2 (h.put V (.cells ([EV.slice zl 0 D.n D.n true,I D.size,I D.op,I D.cnt,.bool D.down].set 3 (.int .i64 (Dz .i64 (D.cnt+1)))) 183)) V zl z D.tick F:=⟨⟨w.size,w.n,w.zs⟩,wl,q,a.Bf0 (Dz .i64 (D.cnt+1)) D.down,b⟩;generalize h.put V (.cells ([EV.slice zl 0 D.n D.n true,I D.size,I D.op,I D.cnt,.bool D.down].set 3 (.int .i64 (Dz .i64 (D.cnt+1)))) 183)=h1 at c1 e d1⊢;obtain⟨t,j,b1⟩:=d1.Qu;rw[C8 j.dev rfl];simp only[Aa];have:=Bhj (K:=K) (D:=D.tick) (F:=F) h wl K 0 h1 (by show D.n-0<K;omega) (cQ _) e c1 (Av2.congr (d1.mono (fun _=>.inl) (Bg.lt wl c1.next)) (fun i _=>by unfold A14;rw[aF (br _)]));refine this.mono ?_;rintro v h2 ⟨rfl,d2,c2,f⟩;refine⟨rfl,?_,c2,f⟩;exact(d2.congr (zs':=fun i=>(D.zs i).flush) fun i m=>(aG m).symm).s
def Dv.fail(D:Dv)(i:Int)(st:Nat):Dv:=if D.has i=true then D.set i.toNat ((D.zs i.toNat).fail st)else D
theorem Zn.Wf.fail{size:Nat}(w:Z.Wf size)(st:Nat):(Z.fail st).Wf size:=by
 unfold Zn.fail;split
 ·exact⟨w.u8,by show st<=4;omega,w.safe,w.len,fun y=>absurd y (by show ¬st<2;omega)⟩
 ·exact w
theorem Bee(d:It h V D F)(hb:HB h)(i:Int)(st:Nat):
 Ok (Rc K (.ptr V 0) (I i) (I st) h) fun v h'=>It h' V (D.fail i st) (Bg F h h')/\Av F h h'/\HB h':=by
 simp only[Rc,Aps d,Aa];unfold Dv.fail;cases o:D.has i with
 | false=>
  simp only[Aa,ak,bD];exact .ret ⟨d.grow d.lt (aE _),Av.refl _,hb⟩
 | true=>
  have:=dN o;obtain⟨j,rfl⟩:∃j:Nat,i=j:=⟨i.toNat,by omega⟩;have hj:j<D.n:=by omega
  obtain⟨zl,z,q,a,b⟩:=d.Qu;obtain⟨f,g⟩:=a.Be3 (j:=j) hj;simp only[Aa,bM,Ah0,a.list];unfold I;rw[f,g];refine(Bad (K:=K) (a.Aj j hj) hb st).An ?_;rintro _ t ⟨p,c3,e⟩;obtain⟨d3,m⟩:=It.Aj d.wf a b d.lt hb hj ((d.wf.zs j hj).fail st) p (c3.mono fun _=>.inl) e (fun y=>.inr ⟨rfl,by
   unfold Zn.fail at y;split at y<;>exact y⟩)
  exact .ret ⟨d3,m,e⟩
def kp(a b:Int):EV:=.agg [I a,I b]
def Aqj(ms:List (EV × EV)):Prop:=∀e∈ms,∃a b p n,e=(kp a b,.agg (p++[I n]))/\U8 p/\p.length=64
theorem Aze(a b:Int):Ao6 (I a) (I b)=some (decide (a=b)):=by
 show Bf (Nat.beq (T4 .i64) (T4 .i64)) (some (eqB a b)) none=_;rw[cO,Ak,An6]
theorem Bnu(a b c d:Int):Ayw (kp a b) (kp c d)=some (decide (a=c/\b=d)):=by
 show F1 [I a,I b] [I c,I d]=_;unfold F1;rw[Aze];by_cases h1:a=c
 ·rw[aM h1]
  simp only[F1,Aze];by_cases h2:b=d
  ·rw[aM h2,aM ⟨h1,h2⟩]
  ·rw[aP h2,aP fun y=>h2 y.2]
 ·rw[aP h1,aP fun y=>h1 y.1]
  simp only[F1,Aze];by_cases h2:b=d
  ·rw[aM h2]
  ·rw[aP h2]
theorem Aqu(a b:Int):∀(ms:List (EV × EV)) (i:Nat),Aqj ms->J4 (kp a b) ms i=some none\/∃j p n,J4 (kp a b) ms i=some (some (j,.agg (p++[I n])))/\U8 p/\p.length=64
 | [],i,_=>.inl rfl
 | (x,y)::r,i,hm=>by
  obtain⟨g,m,p,n,e,hp,o⟩:=hm _ (aX ..);cases e;have t:=Aqu a b r (Nat.succ i) fun e he=>hm e (aT _ he)
  unfold J4;rw[Bnu];by_cases f:a=g/\b=m
  ·rw[aM f];exact .inr ⟨i,p,n,rfl,hp,o⟩
  ·rw[aP f];exact t
theorem Ax7(a b:Int):Q1 TT 227 (kp a b)=true:=by
 have h1:TT.key 227=true:=by kernel_rfl
 have h2:TT.eqs 227=some [0,0]:=by kernel_rfl
 unfold Q1 kp;simp only[h1,h2,Ak];rw[show shaped [0,0] [I a,I b]=true from rfl,Ak];simp only[F1,Aze,aB]
theorem A7c(f:h.get M=some (.map ms))(hm:Aqj ms)(a b:Int):∃ms',builtin TT .delete #[140,227] [.map M,kp a b] h=some (.tuple [],h.put M (.map ms'))/\Aqj ms':=by
 have hu:TT.Za 140=some (.map 227 246):=by kernel_rfl
 have e:builtin TT .delete #[140,227] [.map M,kp a b] h=Bf (Q1 TT 227 (kp a b)) (match h.get M with
  | some (.map es)=>match J4 (kp a b) es 0 with
   | some (some (j,_))=>some (.tuple [],h.put M (.map (es.eraseIdx j)))
   | some none=>some (.tuple [],h.put M (.map es))
   | none=>none
  | _=>none) none:=by
  unfold builtin;simp only[hu];rfl
 rw[e,Ax7,Ak,f];rcases Aqu a b ms 0 hm with y|⟨j,p,n,y,_⟩
 ·simp only[y];exact⟨ms,rfl,hm⟩
 ·simp only[y];exact⟨_,rfl,fun e he=>hm e (List.mem_of_mem_eraseIdx he)⟩
theorem Bl5(f:h.get M=some (.map ms))(hm:Aqj ms)(a b:Int):∃p n,Auy TT 227 246 false (.map M) (kp a b) h=some (.agg (p++[I n]),h)/\U8 p/\p.length=64:=by
 have e:Auy TT 227 246 false (.map M) (kp a b) h=Bf (Q1 TT 227 (kp a b)) (match h.get M with
  | some (.map es)=>match J4 (kp a b) es 0 with
   | some (some (_,v))=>some (v,h)
   | some none=>oB (fun g=>some (g,h)) (zeroOf TT 246)
   | none=>none
  | _=>none) none:=rfl
 have m:zeroOf TT 246=some (.agg (Z2++[I 0])):=by kernel_rfl
 rw[e,Ax7,Ak,f];rcases Aqu a b ms 0 hm with y|⟨j,p,n,y,hp,o⟩
 ·simp only[y,m];exact⟨Z2,0,rfl,U8.zs,Nc⟩
 ·simp only[y];exact⟨p,n,rfl,hp,o⟩
theorem A9o(g:h.get M=some (.map ms))(hm:Aqj ms)(a b:Int){p:List EV}{n:Int}(hp:U8 p)(f:p.length=64):∃ms',Aer TT 227 (.map M) (kp a b) (.agg (p++[I n])) h=some (.tuple [],h.put M (.map ms'))/\Aqj ms':=by
 have e:Aer TT 227 (.map M) (kp a b) (.agg (p++[I n])) h=Bf (Q1 TT 227 (kp a b)) (match h.get M with
  | some (.map es)=>match J4 (kp a b) es 0 with
   | some (some (j,_))=>some (.tuple [],h.put M (.map (es.set j (kp a b,.agg (p++[I n])))))
   | some none=>some (.tuple [],h.put M (.map (es++[(kp a b,.agg (p++[I n]))])))
   | none=>none
  | _=>none) none:=rfl
 rw[e,Ax7,Ak,g];rcases Aqu a b ms 0 hm with y|⟨j,m,o,y,_⟩
 ·simp only[y]
  refine⟨_,rfl,fun e he=>?_⟩;rcases bO.1 he with he|he
  ·exact hm e he
  ·rw[aO.1 he];exact⟨a,b,p,n,rfl,hp,f⟩
 ·simp only[y]
  refine⟨_,rfl,fun e he=>?_⟩;rcases cm he with he|he
  ·exact hm e he
  ·rw[he];exact⟨a,b,p,n,rfl,hp,f⟩
structure Evt where
 Qu:Int
 kind:Int
 Aj:Int
 off:Int
 pat:List EV
def Evt.cells(e:Evt):List EV:=[I e.Qu,I e.kind,I e.Aj,I e.off]++e.pat
structure Evt.Wf(e:Evt):Prop where
 u8:U8 e.pat
 len:e.pat.length=64
structure Lk where
 dv:Dv
 ev:List Evt
 Tw:List Evt
def Bwn:EV->EV->EV
 | .int k x,.int _ y=>.int k (Int.ofNat (Nat.xor x.toNat y.toNat))
 | a,_=>a
def Abt(a b:List EV):List EV:=List.zipWith Bwn a b
def Dv.A1g(D:Dv)(z off:Int)(p:List EV):Dv:=
 if D.has z=true/\0<=off/\off<(D.zs z.toNat).l.length then D.set z.toNat { D.zs z.toNat with l:=(D.zs z.toNat).l.set off.toNat (Abt (((D.zs z.toNat).l[off.toNat]?).getD Z2) p) }else D
noncomputable def Dv.Xy(D:Dv)(e:Evt):Dv:=
 if e.kind=1 then D.A1g e.Aj e.off e.pat else if e.kind=2 then D.fail e.Aj 3 else if e.kind=3 then D.fail e.Aj 4 else if e.kind=4 then D.Bto else D
noncomputable def A2w:List Evt->Dv->List Evt->Lk
 | [],D,k=>⟨D,[],k⟩
 | e::r,D,k=>if D.down=true\/¬e.Qu<=D.cnt then⟨D,e::r,k⟩else A2w r (D.Xy e) (k++[e])
noncomputable def Lk.due(S:Lk):Lk:=A2w S.ev S.dv S.Tw
structure Lk.Wf(S:Lk):Prop where
 ev:S.ev.length+S.Tw.length<=200
 wf:∀e∈S.ev,e.Wf
 hwf:∀e∈S.Tw,e.Wf
structure Ak5(h:Ab)(D V M qc qh:Nat)(cs hs:EV)(ms:List (EV × EV))(S:Lk)(F G:Nat->Prop):Prop where
 Eb:h.get D=some (.cells [.ptr V 0,cs,hs,.map M] 143)
 map:h.get M=some (.map ms)
 marks:Aqj ms
 Lm:Cs h cs qc 32 68 S.ev.length (S.ev.map Evt.cells).flatten
 Ax3:Cs h hs qh 32 68 S.Tw.length (S.Tw.map Evt.cells).flatten
 dev:It h V S.dv F
 sub:(∀i,F i->G i)/\G D/\G M/\(0<S.ev.length->G qc)/\(0<S.Tw.length->G qh)
 apart:¬F D/\¬F M/\(0<S.ev.length->¬F qc)/\(0<S.Tw.length->¬F qh)/\(0<S.ev.length->0<S.Tw.length->qc≠qh)
structure G2(h:Ab)(D:Nat)(S:Lk)(G:Nat->Prop):Prop where
 lt:∀i,G i->i<h.next
 wf:S.Wf
 Qu:∃V M qc qh cs hs ms F,Ak5 h D V M qc qh cs hs ms S F G
theorem Ak5.mono{D:Nat}{S:Lk}{b:Nat->Prop}(a:Ak5 h D V M qc qh cs hs ms S F G)(s:∀i,G i->b i):Ak5 h D V M qc qh cs hs ms S F b:=
 ⟨a.Eb,a.map,a.marks,a.Lm,a.Ax3,a.dev,⟨fun i e=>s i (a.sub.1 i e),s _ a.sub.2.1,s _ a.sub.2.2.1,fun y=>s _ (a.sub.2.2.2.1 y),fun y=>s _ (a.sub.2.2.2.2 y)⟩,a.apart⟩
theorem G2.mono{D:Nat}{S:Lk}{b:Nat->Prop}(d:G2 h D S G)(s:∀i,G i->b i)(l:∀i,b i->i<h.next):G2 h D S b:=by
 obtain⟨V,M,qc,qh,cs,hs,ms,F,a⟩:=d.Qu;exact⟨l,d.wf,V,M,qc,qh,cs,hs,ms,F,a.mono s⟩
theorem G2.grow{D:Nat}{S:Lk}(d:G2 h' D S G)(l:∀i,G i->i<h.next)(n:h.next<=h'.next):G2 h' D S (Bg G h h'):=d.mono (fun _=>.inl) (Bg.lt l n)
theorem G2.Bnm{D:Nat}{S:Lk}(d:G2 h2 D S (Bg (Bg G h h1) h1 h2))(a:h.next<=h1.next)(b:h1.next<=h2.next)(l:∀i,G i->i<h.next):G2 h2 D S (Bg G h h2):=
 d.mono (fun _=>Bg.trans a b) (Bg.lt l (bN a b))
theorem Ak5.frame{D:Nat}{S:Lk}(a:Ak5 h D V M qc qh cs hs ms S F G)(n:h.next<=h'.next)(e:∀i,G i->h'.get i=h.get i):Ak5 h' D V M qc qh cs hs ms S F G:=
 ⟨by rw[e _ a.sub.2.1];exact a.Eb,by rw[e _ a.sub.2.2.1];exact a.map,a.marks,a.Lm.frame fun y=>e _ (a.sub.2.2.2.1 y),a.Ax3.frame fun y=>e _ (a.sub.2.2.2.2 y),a.dev.frame n fun i b=>e i (a.sub.1 i b),a.sub,a.apart⟩
theorem G2.frame{D:Nat}{S:Lk}(d:G2 h D S G)(n:h.next<=h'.next)(e:∀i,G i->h'.get i=h.get i):G2 h' D S G:=by
 obtain⟨V,M,qc,qh,cs,hs,ms,F,a⟩:=d.Qu;exact⟨fun i b=>aK (d.lt i b) n,d.wf,V,M,qc,qh,cs,hs,ms,F,a.frame n e⟩
theorem G2.chg{D:Nat}{S:Lk}{T:Nat->Prop}(d:G2 h D S G)(c:Av T h h')(n:∀i,G i->¬T i):G2 h' D S G:=d.frame c.next fun i a=>c.get i (d.lt i a) (n i a)
theorem G2.ext{D:Nat}{S:Lk}(d:G2 h D S G)(c:Ext h h'):G2 h' D S G:=d.chg c fun _ _=>id
theorem Ak5.put{D:Nat}{S:Lk}(a:Ak5 h D V M qc qh cs hs ms S F G)(hb:HB h)(d:It h' V dv (Bg F h h'))(c:Av F h h'):
 Ak5 h' D V M qc qh cs hs ms { S with dv:=dv } (Bg F h h') (Bg G h h'):=by
 have lq:∀{s q n l},Cs h s q 32 68 n l->0<n->q<h.next:=fun r y=>hb _ _ (r.block y)
 have e:∀{i},¬F i->i<h.next->¬Bg F h h' i:=fun y l z=>by
  rcases z with z|z
  ·exact y z
  ·omega
 refine⟨c.at hb a.Eb a.apart.1,c.at hb a.map a.apart.2.1,a.marks,a.Lm.frame fun y=>c.get _ (lq a.Lm y) (a.apart.2.2.1 y),a.Ax3.frame fun y=>c.get _ (lq a.Ax3 y) (a.apart.2.2.2.1 y),d,⟨fun i b=>?_,.inl a.sub.2.1,.inl a.sub.2.2.1,fun y=>.inl (a.sub.2.2.2.1 y),fun y=>.inl (a.sub.2.2.2.2 y)⟩,⟨e a.apart.1 (hb _ _ a.Eb),e a.apart.2.1 (hb _ _ a.map),fun y=>e (a.apart.2.2.1 y) (lq a.Lm y),fun y=>e (a.apart.2.2.2.1 y) (lq a.Ax3 y),a.apart.2.2.2.2⟩⟩;rcases b with b|b
 ·exact .inl (a.sub.1 i b)
 ·exact .inr b
theorem G2.put{D:Nat}{S:Lk}(s:G2 h D S G)(a:Ak5 h D V M qc qh cs hs ms S F G)(hb:HB h)(d:It h' V dv (Bg F h h'))(c:Av F h h'):
 G2 h' D { S with dv:=dv } (Bg G h h')/\Av G h h':=
 ⟨⟨Bg.lt s.lt c.next,⟨s.wf.ev,s.wf.wf,s.wf.hwf⟩,V,M,qc,qh,cs,hs,ms,_,a.put hb d c⟩,c.mono a.sub.1⟩
theorem Ak5.Bm9{D:Nat}{S:Lk}(a:Ak5 h D V M qc qh cs hs ms S F G)(hm:Aqj ms'):
 Ak5 (h.put M (.map ms')) D V M qc qh cs hs ms' S F G:=by
 refine⟨?_,Af _ _ _,hm,a.Lm.frame fun y=>Ag _ ?_,a.Ax3.frame fun y=>Ag _ ?_,a.dev.frame (aE _) fun i b=>Ag _ fun y=>?_,a.sub,a.apart⟩
 ·rw[Ag _ (Bb a.map a.Eb (by simp))];exact a.Eb
 ·exact Bb a.map (a.Lm.block y) (by simp)
 ·exact Bb a.map (a.Ax3.block y) (by simp)
 ·rw[<-y]at b;exact a.apart.2.1 b
theorem G2.Bm9{D:Nat}{S:Lk}(s:G2 h D S G)(a:Ak5 h D V M qc qh cs hs ms S F G)(hb:HB h)(hm:Aqj ms'):
 G2 (h.put M (.map ms')) D S G/\Av G h (h.put M (.map ms'))/\HB (h.put M (.map ms')):=by
 have b:=hb _ _ a.map;exact⟨⟨s.lt,s.wf,V,M,qc,qh,cs,hs,ms',F,a.Bm9 hm⟩,(Av.refl h).Ar (.inl a.sub.2.2.1) b _,hb.put b _⟩
theorem A6m{D:Nat}{S:Lk}(a:Ak5 h D V M qc qh cs hs ms S F G):Fo K (.ptr D 0) h=some (.ptr V 0,h):=by simp only[Fo,Aa,C8 a.Eb rfl]
def Btj(disp:Nat->Option FT)(K d:Nat)(S:Lk):Prop:=∀(h:Ab) (D:Nat) (G:Nat->Prop),G2 h D S G->HB h->Ok (Ae TT disp K d false 129 [.ptr D 0] h) fun v h'=>G2 h' D S.due (Bg G h h')/\Av G h h'/\HB h'
variable {S:Lk}
noncomputable def Lk.begin(S:Lk)(i:Int):Lk:=if S.dv.has i=true then S.due else S
def Bbg(disp:Nat->Option FT)(K:Nat)(S:Lk):Prop:=∀d,12<=d->Btj disp K d S
theorem Aiv(H:Bj disp){d:Nat}(hd:13<=d){D:Nat}(f:Bbg disp K S)(s:G2 h D S G)(hb:HB h)(i:Int):
 Ok (Ae TT disp K d false 138 [.ptr D 0,I i] h) fun v h'=>G2 h' D (S.begin i) (Bg G h h')/\Av G h h'/\HB h':=by
 obtain⟨e,rfl⟩:∃k,d=k+1:=⟨d-1,by omega⟩;rw[Atr H (by omega)];obtain⟨V,M,qc,qh,cs,m,ms,F,a⟩:=s.Qu;obtain⟨zl,z,q,b,_⟩:=a.dev.Qu;have fin:Ok (some (.tuple [],h)) fun(_:EV) h'=>G2 h' D S (Bg G h h')/\Av G h h'/\HB h':=.ret ⟨s.grow s.lt (aE _),Av.refl _,hb⟩
 unfold Lk.begin;simp only[Apf,I,Ac,Aa];by_cases h0:0<=i
 ·have j:=Ay7 (K:=K) b
  simp only[I]at j;simp only[h0,aB,Aa,C8 a.Eb rfl,j,Ac,Zp];by_cases h1:i<S.dv.n
  ·have g:S.dv.has i=true:=aM ⟨h0,h1⟩
   simp only[h1,aB,Aa];rw[g,aG rfl];refine(f e (by omega) h D G s hb).An ?_;intro v h' p;exact .ret p
  ·have g:S.dv.has i=false:=aP fun y=>h1 y.2
   simp only[h1,aA,Aa];rw[g,aF (by simp)];exact fin
 ·have g:S.dv.has i=false:=aP fun y=>h0 y.1
  simp only[h0,aA,Aa,Zp];rw[g,aF (by simp)];exact fin
noncomputable def Lk.append(S:Lk)(i:Int)(x:List EV):Lk × Int × Int:=({ S.begin i with dv:=((S.begin i).dv.append i x).1 },((S.begin i).dv.append i x).2)
theorem Av5(H:Bj disp)(X:1000<K){d:Nat}(hd:14<=d){D:Nat}(u:Bbg disp K S)(s:G2 h D S G)(hb:HB h)(i:Int)(L:x.length=64)(hu:U8 x):
 Ok (Ae TT disp K d false 187 [.ptr D 0,I i,.agg x] h) fun v h'=>v=.tuple [I (S.append i x).2.1,I (S.append i x).2.2]/\G2 h' D (S.append i x).1 (Bg G h h')/\Av G h h'/\HB h':=by
 obtain⟨e,rfl⟩:∃k,d=k+1:=⟨d-1,by omega⟩;rw[Asg H (by omega)];simp only[Am7,Aa];have g:Ext h (h.new (.cells x 30)):=Av.new _ _;have g5:(h.new (.cells x 30)).get h.next=some (.cells x 30):=Ad _ _
 have m:HB (h.new (.cells x 30)):=hb.new _;have s1:=s.ext g;have Y:(h.new (.cells x 30)).next=h.next+1:=rfl
 generalize h.new (.cells x 30)=h1 at g g5 m s1 Y⊢;refine(Aiv (K:=K) H (by omega) u s1 m i).An ?_;rintro _ h2 ⟨s2,c2,b⟩;have nx:¬G h.next:=fun y=>bS _ (s.lt _ y)
 have g5:=c2.at m g5 nx;have o:Av G h h2:=(Ext.to g).trans c2;have s2:G2 h2 D (S.begin i) (Bg G h1 h2):=s2;unfold Lk.append;generalize S.begin i=T at s2⊢;obtain⟨V,M,qc,qh,cs,C,ms,F,a⟩:=s2.Qu;have lD:=b _ _ a.Eb;have l5:=b _ _ g5;simp only[Aa,Aw,Cv lD,C8 a.Eb rfl,Cv l5,Db g5 rfl,Ai L];refine Ok.bC (S:=F) (A6p (K:=K) a.dev.lift (D4 b) X i L hu) (fun _ _ p=>p.2.2.1) ?_;rintro _ h3 h4 s' ⟨rfl,d3,_,E⟩ sm c4 _;have t:=sm.hb E;have d4:It h4 V (T.dv.append i x).1 (Bg F h2 h4):=by
  have:=d3.frame (h':=h4) (by rw[sm.next];exact aE _) fun j _=>sm.get j
  refine this.mono (fun j hj=>?_) (Bg.lt a.dev.lt c4.next);rcases hj with y|y
  ·exact .inl y
  ·exact .inr ⟨y.1,by rw[sm.next];exact y.2⟩
 have a4:=a.put b d4 c4;obtain⟨A,f⟩:=s2.put a b d4 c4;have B:Av G h h4:=by
  refine o.then f fun j hj hl=>?_
  rcases hj with y|y
  ·exact y
  ·have:=g.next;omega
 have A:G2 h4 D { T with dv:=(T.dv.append i x).1 } (Bg G h h4):=A.mono (fun j hj=>by
  rcases hj with(y|y)|y
  ·exact .inl y
  ·have:=g.next;have:=f.next;exact .inr ⟨by omega,by omega⟩
  ·have:=o.next;exact .inr ⟨by omega,y.2⟩) (Bg.lt s.lt B.next)
 simp only[Aa,I,Ac];by_cases O:(T.dv.append i x).2.2=0
 ·simp only[O,aB,Aa,C8 a4.Eb rfl]
  rw[Ay (l:=[I i,I (T.dv.append i x).2.1]) rfl];obtain⟨ms',e1,J⟩:=A7c a4.map a4.marks i (T.dv.append i x).2.1;unfold kp at e1;rw[e1,As];simp only[Yf,dr];obtain⟨V',M',ad,ae,af,P,Q,F',a5⟩:=A.Qu;have U:=t _ _ a4.map;have a6:=a4.Bm9 J;have gM:Bg G h h4 M:=by
   rcases a.sub.2.2.1 with y|y
   ·exact .inl y
   ·have:=g.next;have:=f.next;exact .inr ⟨by omega,by omega⟩
  have W:Av (Bg G h h4) h4 (h4.put M (.map ms')):=(Av.refl h4).Ar (.inl gM) U _;refine .ret ⟨rfl,⟨Bg.lt s.lt (B.grow W).next,A.wf,V,M,qc,qh,cs,C,ms',_,a6.mono fun j hj=>?_⟩,B.grow W,t.put U _⟩;show Bg G h h4 j;rcases hj with(y|y)|y
  ·exact .inl y
  ·have:=g.next;have:=f.next;exact .inr ⟨by omega,by omega⟩
  ·have:=o.next;exact .inr ⟨by omega,y.2⟩
 ·simp only[O,aA,Aa,Yf]
  exact .ret ⟨rfl,A,B,t⟩
noncomputable def Lk.read(S:Lk)(i off:Int):Lk × List EV × Int:=({ S.begin i with dv:=(S.begin i).dv.begin i },(S.begin i).dv.read i off)
theorem Bd9(H:Bj disp){d:Nat}(hd:14<=d){D:Nat}(o:Bbg disp K S)(s:G2 h D S G)(hb:HB h)(i off:Int):
 Ok (Ae TT disp K d false 106 [.ptr D 0,I i,I off] h) fun v h'=>v=.tuple [.agg (S.read i off).2.1,I (S.read i off).2.2]/\(S.read i off).2.1.length=64/\G2 h' D (S.read i off).1 (Bg G h h')/\Av G h h'/\HB h':=by
 obtain⟨e,rfl⟩:∃k,d=k+1:=⟨d-1,by omega⟩;rw[Avu H (by omega)];simp only[Aro,Aa];have p:Ext h (h.new (.cells (List.replicate 64 (.int .u8 0)) 30)):=Av.new _ _;have g:(h.new (.cells (List.replicate 64 (.int .u8 0)) 30)).get h.next=some (.cells Z2 30):=Ad _ _
 have b:HB (h.new (.cells (List.replicate 64 (.int .u8 0)) 30)):=hb.new _;have s1:=s.ext p;generalize h.new (.cells (List.replicate 64 (.int .u8 0)) 30)=h1 at p g b s1⊢;refine(Aiv (K:=K) H (by omega) o s1 b i).An ?_;rintro _ h2 ⟨s2,c2,f⟩;have nx:¬G h.next:=fun y=>bS _ (s.lt _ y)
 have g:=c2.at b g nx;have O:h.next<h1.next:=by
  have:=f _ _ g;rcases cZ h.next h1.next with y|y
  ·exact y
  ·exact absurd (b _ _ (show h1.get h.next=some (.cells Z2 30) by assumption)) (by omega)
 have t:Av G h h2:=(Ext.to p).trans c2;unfold Lk.read;generalize S.begin i=T at s2⊢;obtain⟨V,M,qc,qh,cs,E,ms,F,a⟩:=s2.Qu;simp only[Aa,C8 a.Eb rfl];refine(Bef (K:=K) a.dev f i off).An ?_;rintro _ B ⟨rfl,hlen,d3,c3,u⟩;obtain⟨J,m⟩:=s2.put a f d3 c3;have C:¬Bg G h1 h2 h.next:=by
  rintro(y|y)
  ·exact nx y
  ·omega
 have g:=m.at f g C;have A:=u _ _ g;simp only[Aa];refine Ok.st (T.dv.read i off).1 g rfl (by rw[show EV.cells (.agg (T.dv.read i off).1)=(T.dv.read i off).1 from rfl,Bc,hlen]) (Bm (by rw[Nc];exact hlen.symm)) ?_;rw[Gg (Af _ _ _) A26.1 A26.2 hlen];have L:Av G h B:=by
  refine t.then m fun j hj P=>?_
  rcases hj with y|y
  ·exact y
  ·have:=p.next;omega
 have c4:Av G h (B.put h.next (.cells (T.dv.read i off).1 30)):=L.Ar (.inr (aE _)) A _;refine .ret ⟨rfl,hlen,?_,c4,u.put A _⟩;refine G2.mono (J.frame (h':=B.put h.next (.cells (T.dv.read i off).1 30)) (aE _) fun j hj=>Ag _ fun y=>?_) (fun j hj=>?_) (Bg.lt s.lt c4.next)
 ·subst y
  rcases hj with y|y
  ·exact C y
  ·have:=c2.next;omega
 ·show Bg G h B j
  rcases hj with(y|y)|y
  ·exact .inl y
  ·have:=p.next;have:=m.next;exact .inr ⟨by omega,by omega⟩
  ·have:=t.next;exact .inr ⟨by omega,y.2⟩
noncomputable def Lk.flush(S:Lk):Lk × Int:=({ S.due with dv:=S.due.dv.flush.1 },S.due.dv.flush.2)
theorem Ay4(H:Bj disp)(m:1000<K){d:Nat}(hd:14<=d){D:Nat}(b:Bbg disp K S)(s:G2 h D S G)(hb:HB h):
 Ok (Ae TT disp K d false 98 [.ptr D 0] h) fun v h'=>v=I S.flush.2/\G2 h' D S.flush.1 (Bg G h h')/\Av G h h'/\HB h':=by
 obtain⟨e,rfl⟩:∃k,d=k+1:=⟨d-1,by omega⟩;rw[As4 H (by omega)];simp only[Aos,dr];refine(b e (by omega) h D G s hb).An ?_;rintro _ h2 ⟨s2,c2,f⟩;unfold Lk.flush;generalize S.due=T at s2⊢;obtain⟨V,M,qc,qh,cs,o,ms,F,a⟩:=s2.Qu;simp only[Aa,C8 a.Eb rfl];refine(Bbc (K:=K) a.dev f m).An ?_;rintro _ t ⟨rfl,d3,c3,j⟩;obtain⟨p,g⟩:=s2.put a f d3 c3;exact .ret ⟨rfl,p.Bnm c2.next g.next s.lt,c2.grow g,j⟩
noncomputable def Lk.finish(S:Lk)(i:Int):Lk × Int:=({ S.begin i with dv:=((S.begin i).dv.finish i).1 },((S.begin i).dv.finish i).2)
theorem Awk(H:Bj disp){d:Nat}(hd:14<=d){D:Nat}(b:Bbg disp K S)(s:G2 h D S G)(hb:HB h)(i:Int):
 Ok (Ae TT disp K d false 189 [.ptr D 0,I i] h) fun v h'=>v=I (S.finish i).2/\G2 h' D (S.finish i).1 (Bg G h h')/\Av G h h'/\HB h':=by
 obtain⟨e,rfl⟩:∃k,d=k+1:=⟨d-1,by omega⟩;rw[Ar2 H (by omega)];simp only[Am0,dr];refine(Aiv (K:=K) H (by omega) b s hb i).An ?_;rintro _ h2 ⟨s2,c2,f⟩;unfold Lk.finish;generalize S.begin i=T at s2⊢;obtain⟨V,M,qc,qh,cs,m,ms,F,a⟩:=s2.Qu;simp only[Aa,C8 a.Eb rfl];refine(A6r (K:=K) a.dev f i).An ?_;rintro _ p ⟨rfl,d3,c3,j⟩;obtain⟨o,g⟩:=s2.put a f d3 c3;exact .ret ⟨rfl,o.Bnm c2.next g.next s.lt,c2.grow g,j⟩
theorem Be2 {D:Nat}(z:Int):∀(m i:Nat) (h:Ab),S.dv.size-i<m->G2 h D S G->HB h ->
 Ok (Lr K m (.ptr D 0) (I z) (I i) h) fun v h'=>G2 h' D S G/\Av G h h'/\HB h':=by
 intro m;induction m with
 | zero=>intro i h hm;omega
 | succ m p=>
  intro i h hm s hb;obtain⟨V,M,qc,qh,cs,t,ms,F,a⟩:=s.Qu;obtain⟨zl,A,q,b,_⟩:=a.dev.Qu;have e:=A2f (K:=K) b;have u:S.dv.size<=64:=a.dev.wf.size;simp only[I]at e;simp only[Lr,Aa,C8 a.Eb rfl,e,I,Ac];by_cases f:(i:Int)<S.dv.size
  ·simp only[f,aB,Aa,Agj,C8 a.Eb rfl]
   rw[Ay (l:=[I z,I i]) rfl];obtain⟨ms',e1,g⟩:=A7c a.map a.marks z i;unfold kp at e1;rw[e1,As];simp only[Agi,I,Ac];rw[Cj];obtain⟨s2,c2,j⟩:=s.Bm9 a hb g;refine(p (i+1) _ (by omega) s2 j).mono ?_;rintro v h' ⟨y,c3,o⟩;exact⟨y,c2.trans c3,o⟩
  ·simp only[f,aA,Aa]
   exact .ret ⟨s,Av.refl _,hb⟩
end Go.Ev
