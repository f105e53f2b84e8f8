import Derived.Test.YtokpnommcenoaaaGreatXa
set_option linter.all false
namespace Go.Ev
open Go.Proofs
set_option maxRecDepth 100000
variable {F G:Nat->Prop}{h h' h1 h2:Ab}{K M V i n q' qc qh zl:Nat}{q:Nat->Nat}{op cnt:Int}{down:Bool}{Z:Zn}{x:List EV}{ms ms':List (EV × EV)}{cs hs:EV}{disp:Nat->Option FT}
section
def Bh(F:Nat->Prop)(h h':Ab):Nat->Prop:=fun i=>F i\/(h.next<=i/\i<h'.next)
theorem Ar.grow(a:Ar F h h1)(b:Ar (Bh F h h1) h1 h2):Ar F h h2:=
 a.then b fun i e f=>by
  rcases e with e|e
  ·exact e
  ·omega
theorem Bh.trans(a:h.next<=h1.next)(b:h1.next<=h2.next)(g:Bh (Bh F h h1) h1 h2 i):Bh F h h2 i:=by
 rcases g with(g|g)|g
 ·exact .inl g
 ·exact .inr ⟨g.1,by omega⟩
 ·exact .inr ⟨by omega,g.2⟩
theorem Bh.le(b:h1.next<=h2.next)(g:Bh F h h1 i):Bh F h h2 i:=by
 rcases g with g|g
 ·exact .inl g
 ·exact .inr ⟨g.1,by omega⟩
structure Dv where
 n:Nat
 size:Nat
 op:Int
 cnt:Int
 down:Bool
 zs:Nat->Zn
def Bc(l:List Nat):List EV:=l.map fun(b:Nat)=>EV.int .u8 (Int.ofNat b)
def U8(x:List EV):Prop:=∃l:List Nat,(∀b∈l,b<256)/\x=Bc l
theorem U8.zs:U8 Uo:=⟨List.replicate 64 0,fun b hb=>by rw[bZ hb];decide,by unfold Bc Uo;rw[fJ];rfl⟩
structure Zn.Wf(Z:Zn)(size:Nat):Prop where
 u8:∀x∈Z.l,U8 x
 st:Z.st<=4
 safe:Z.safe<=Z.l.length
 len:Z.l.length<=size
 room:Z.st<2->Z.l.length<size
structure Dv.Wf(D:Dv):Prop where
 size:D.size<=64
 n:D.n<=512
 zs:∀i,i<D.n->(D.zs i).Wf D.size
def Azw(V zl n:Nat)(z q:Nat->Nat)(zs:Nat->Zn):Nat->Prop:=fun i=>i=V\/i=zl\/∃d,d<n/\(i=z d\/((zs d).l≠[]/\i=q d))
structure Hp(h:Ab)(V:Nat)(D:Dv)(F:Nat->Prop):Prop where
 wf:D.Wf
 lt:∀i,F i->i<h.next
 N8:∃zl z q,L5 h V zl D.n z q D.size D.op D.cnt D.down D.zs/\∀i,Azw V zl D.n z q D.zs i->F i
theorem Hp.mono{D:Dv}(d:Hp h V D F)(s:∀i,F i->G i)(l:∀i,G i->i<h.next):Hp h V D G:=by
 obtain⟨zl,z,q,a,b⟩:=d.N8;exact⟨d.wf,l,zl,z,q,a,fun i e=>s i (b i e)⟩
theorem Bh.lt(l:∀i,F i->i<h.next)(n:h.next<=h'.next):∀i,Bh F h h' i->i<h'.next:=fun i a=>by
 rcases a with a|a
 ·have:=l i a;omega
 ·exact a.2
theorem Hp.grow{D:Dv}(d:Hp h' V D F)(l:∀i,F i->i<h.next)(n:h.next<=h'.next):Hp h' V D (Bh F h h'):=
 d.mono (fun _=>.inl) (Bh.lt l n)
theorem Asa {l:List (List EV)}:l≠[]↔0<l.length:=by rw[List.length_pos_iff]
theorem L5.frame{z:Nat->Nat}{size:Int}{Zs:Nat->Zn}(d:L5 h V zl n z q size op cnt down Zs)(e:∀i,Azw V zl n z q Zs i->h'.get i=h.get i):L5 h' V zl n z q size op cnt down Zs:=by
 refine⟨d.pos,by rw[e _ (.inl rfl)];exact d.dev,by rw[e _ (.inr (.inl rfl))];exact d.row,fun i f=>?_,d.A2z,d.A5s⟩;obtain⟨s,a,b⟩:=(d.An i f).An;exact⟨⟨s,by rw[e _ (.inr (.inr ⟨i,f,.inl rfl⟩))];exact a,b.frame fun g=>e _ (.inr (.inr ⟨i,f,.inr ⟨Asa.2 g,rfl⟩⟩))⟩,(d.An i f).wf⟩
theorem Hp.frame{D:Dv}(d:Hp h V D F)(n:h.next<=h'.next)(e:∀i,F i->h'.get i=h.get i):Hp h' V D F:=by
 obtain⟨zl,z,q,a,b⟩:=d.N8;exact⟨d.wf,fun i f=>aL (d.lt i f) n,zl,z,q,a.frame fun i f=>e i (b i f),b⟩
theorem Hp.chg{D:Dv}{S:Nat->Prop}(d:Hp h V D F)(c:Ar S h h')(n:∀i,F i->¬S i):Hp h' V D F:=
 d.frame c.next fun i a=>c.get i (d.lt i a) (n i a)
theorem Hp.ext{D:Dv}(d:Hp h V D F)(c:Ext h h'):Hp h' V D F:=d.chg c fun _ _=>id
theorem L5.A9k{z:Nat->Nat}{size:Int}{Zs:Nat->Zn}(d:L5 h V zl n z q size op cnt down Zs)(f:Int)(e:Bool):
 L5 (h.put V (.cells [.slice zl 0 n n true,I size,I op,I f,.bool e] 152)) V zl n z q size op f e Zs:=by
 refine⟨d.pos,Ae _ _ _,?_,fun i g=>?_,d.A2z,d.A5s⟩
 ·rw[Af _ (Be d.dev d.row (by simp))];exact d.row
 ·obtain⟨s,a,b⟩:=(d.An i g).An
  refine⟨⟨s,?_,b.frame fun j=>Af _ (Be d.dev (b.block j) (by simp))⟩,(d.An i g).wf⟩;rw[Af _ (Be d.dev a (by simp))];exact a
def Aig(Zs:Nat->Zn)(d:Nat)(Z:Zn):Nat->Zn:=fun e=>if e=d then Z else Zs e
def A0b(q:Nat->Nat)(d x:Nat):Nat->Nat:=fun e=>if e=d then x else q e
theorem L5.Bcf{z:Nat->Nat}{size:Int}{Zs:Nat->Zn}(d:L5 h V zl n z q size op cnt down Zs)(hb:HB h)(C:i<n)
 (L:Ft h' (z i) q' size Z) (c:Ar (fun j=>j=z i\/((Zs i).l≠[]/\j=q i)) h h') (H:Z.l≠[]->h.next<=q'\/(q'=q i/\(Zs i).l≠[])) :
 L5 h' V zl n z (A0b q i q') size op cnt down (Aig Zs i Z):=by
 obtain⟨Q,E,bi⟩:=(d.An i C).An;have O:∀x o,h.get x=some o->(∀l,o≠.vec l 30 64)->¬((Zs i).l≠[]/\x=q i):=by
  rintro x o u p ⟨t,rfl⟩;rw[bi.block (Asa.1 t)]at u;cases u;exact p _ rfl
 have g:∀x o,h.get x=some o->x≠z i->(∀l,o≠.vec l 30 64)->h'.get x=some o:=fun x o u P p=>by
  refine c.at hb u ?_;rintro(y|y)
  ·exact P y
  ·exact O x o u p y
 refine⟨d.pos,g _ _ d.dev (Be d.dev E (by simp)) (by intros;simp),g _ _ d.row (Be d.row E (by simp)) (by intros;simp),fun j hj=>?_,d.A2z,?_⟩
 ·by_cases f:j=i
  ·subst f;simp only[A0b,Aig,bG];exact L
  ·simp only[A0b,Aig,f,aY]
   obtain⟨s,a,b⟩:=(d.An j hj).An;refine⟨⟨s,g _ _ a (fun e=>f (d.A2z j i hj C e)) (by intros;simp),b.frame fun t=>?_⟩,(d.An j hj).wf⟩;have J:=b.block t;refine c.get _ (hb _ _ J) ?_;rintro(y|⟨v,A⟩)
   ·exact Be J E (by simp) y
   ·exact f (d.A5s j i hj C (Asa.2 t) v A)
 ·intro j k hj B
  have lq:∀j,j<n->(Zs j).l≠[]->q j<h.next:=fun j hj t=>by
   obtain⟨s,a,b⟩:=(d.An j hj).An;exact hb _ _ (b.block (Asa.1 t))
  by_cases f:j=i<;>by_cases m:k=i
  ·intros;omega
  ·subst f;simp only[A0b,Aig,m,bG,aY]
   intro a b e;rcases H a with y|⟨v,A⟩
   ·have:=lq k B b;omega
   ·exact absurd (d.A5s j k hj B A b (by rw[<-v];exact e)).symm m
  ·subst m;simp only[A0b,Aig,f,bG,aY]
   intro a b e;rcases H b with y|⟨v,A⟩
   ·have:=lq j hj a;omega
   ·exact absurd (d.A5s j k hj B a A (by rw[<-v];exact e)) f
  ·simp only[A0b,Aig,f,m,aY]
   exact d.A5s j k hj B
def Dv.has(D:Dv)(i:Int):Bool:=decide (0<=i/\i<D.n)
def Dv.Ff(D:Dv)(i:Int):Int:=if D.down=true then 34 else if D.has i=false then 13 else 0
noncomputable def Dv.tick(D:Dv):Dv:={ D with cnt:=Cx .i64 (D.cnt+1) }
noncomputable def Dv.begin(D:Dv)(i:Int):Dv:=if D.Ff i=0 then D.tick else D
def Dv.set(D:Dv)(i:Nat)(Z:Zn):Dv:={ D with zs:=Aig D.zs i Z }
section
variable{z:Nat->Nat}{size:Int}{Zs:Nat->Zn}(d:L5 h V zl n z q size op cnt down Zs)
include d
theorem L5.list(k:EV->R):Dr (.ptr V 0) h k=k (.slice zl 0 n n true):=by rw[Cy d.dev rfl];rfl
theorem L5.Bhl(a:i<n)(k:EV->R):X8 1 (.slice zl 0 n n true) (I i) (fun v=>Dr v h k)=k (.ptr (z i) 0):=by
 unfold I;rw[Mg a,Cy d.row rfl,bC,bc,av,cF a];rfl
theorem A64(i:Int):It K (.ptr V 0) (I i) h=some (.bool (decide (0<=i/\i<n)),h):=by
 simp only[It,I,Ad,Aa];by_cases h0:0<=i
 ·simp only[h0,aB,Aa,Ad,d.list,Uy,fS]
 ·simp only[h0,aA,Aa,Uy,fR]
end
section
variable{D:Dv}(d:Hp h V D F)(hb:HB h)
include d
theorem Ali(i:Int):It K (.ptr V 0) (I i) h=some (.bool (D.has i),h):=by
 obtain⟨w,wl,zl,z,q,a,b⟩:=d;exact A64 a i
theorem A36(i:Int):Ki K (.ptr V 0) (I i) h=some (I (if D.has i=true then(D.zs i.toNat).st else 4),h):=by
 simp only[Ki,Ali d,Aa];obtain⟨w,wl,zl,z,q,a,b⟩:=d;cases e:D.has i with
 | false=>simp only[Aa,I,aU,aY]
 | true=>
  have:=cP e;obtain⟨j,rfl⟩:∃j:Nat,i=j:=⟨i.toNat,by omega⟩;have hj:j<D.n:=by omega
  simp only[Aa,Aak,a.list,a.Bhl hj,Aib (a.An j hj),bG];rfl
include hb
theorem Ad0(i:Int):Ok (H4 K (.ptr V 0) (I i) h) fun v h'=>v=I (D.Ff i)/\Hp h' V (D.begin i) F/\Ar F h h'/\HB h'/\h'.next=h.next:=by
 have f:=Ali (K:=K) d i;obtain⟨w,wl,zl,z,q,a,b⟩:=d;unfold Dv.begin Dv.Ff;simp only[H4,Aa,Cy a.dev rfl];cases hd:D.down with
 | true=>
  simp only[Aa,bG,show((34:Int)=0)=False by simp,aY];exact .ret ⟨rfl,⟨w,wl,zl,z,q,a,b⟩,Ar.refl _,hb,rfl⟩
 | false=>
  simp only[Aa,f,aU,aY];cases g:D.has i with
  | false=>
   simp only[Aa,bG,show((13:Int)=0)=False by simp,aY];exact .ret ⟨rfl,⟨w,wl,zl,z,q,a,b⟩,Ar.refl _,hb,rfl⟩
  | true=>
   simp only[Aa,fM,aY,bG,Aaj,Cy a.dev rfl,I,Ad];have e:=hb _ _ a.dev;refine Ok.Zl a.dev rfl rfl (by show 3<5;decide) ?_;refine .ret ⟨rfl,⟨⟨w.size,w.n,w.zs⟩,wl,zl,z,q,a.A9k (Cx .i64 (D.cnt+1)) D.down,b⟩,(Ar.refl h).Ak (.inl (b _ (.inl rfl))) e _,hb.put e _,rfl⟩
end
end
variable {D dv:Dv}
theorem Ji {b:Nat}{s:DX}{call:Ab->R}{k:EV->Ab->DX->R}{v:EV}(hb:Al7 b s=true)(a:loose b s.nw = [])(e:call h.lift=some (v,h.lift)):Ds i b s h call k=k v h (s.big i):=by
 have f:K0 b s h=h.lift:=by unfold K0;rw[a];rfl
 show Bb (Al7 b s) (Ev.Ap (call (K0 b s h)) fun v h'=>Po i b s h h' fun s h=>k v h s) none=_;rw[hb,Al,f,e];show Po i b s h h.lift (fun s h=>k v h s)=_;unfold Po;rw[aR (show h.next<=h.lift.mw from aC _),Al,a];rfl
theorem L5.lift{z:Nat->Nat}{size:Int}{Zs:Nat->Zn}(d:L5 h V zl n z q size op cnt down Zs):L5 h.lift V zl n z q size op cnt down Zs:=d.frame fun i _=>By h i
theorem Hp.lift(d:Hp h V D F):Hp h.lift V D F:=d.frame (aC _) fun i _=>By h i
def Ac7(Zs:Nat->Zn)(n:Nat):Nat:=((List.range n).filter fun i=>(Zs i).st=1).length
theorem Bac(Zs:Nat->Zn)(n:Nat):Ac7 Zs (n+1)=Ac7 Zs n+(if(Zs n).st=1 then 1 else 0):=by
 unfold Ac7;rw[cz,eF,aF];congr 1;by_cases a:(Zs n).st=1<;>simp[a]
theorem Bje(Zs:Nat->Zn)(n:Nat):Ac7 Zs n<=n:=by
 unfold Ac7;have:=eG (fun i=>decide ((Zs i).st=1)) (List.range n);simpa using this
theorem A6r{z:Nat->Nat}{size:Int}{Zs:Nat->Zn}(d:L5 h V zl n z q size op cnt down Zs)(j:n<=512):∀(m i:Nat),n-i<m->i<=n ->
 I8 K m (I (Ac7 Zs i)) (.slice zl 0 n n true) (I n) (I i) h=some (I (Ac7 Zs n),h):=by
 intro m;induction m with
 | zero=>intro i hm;omega
 | succ m g=>
  intro i hm k;simp only[I8,I,Ad,Aa];by_cases b:(i:Int)<n
  ·have e:i<n:=by omega
   have f:=d.Bhl e;simp only[I]at f;have hle:=Bje Zs i;simp only[b,aB,Aa,Y7,f,Aib (d.An i e),I,Ad];have a:=g (i+1) (by omega) (by omega);rw[Bac]at a;by_cases h1:(Zs i).st=1
   ·rw[show decide (((Zs i).st:Int)=1)=true by simp[h1]]
    rw[aN h1]at a;simp only[Aa,Ad,Qx];rw[Cn (by omega) (by omega),Cn (by omega) (by omega)];exact a
   ·rw[show decide (((Zs i).st:Int)=1)=false by simp;omega]
    rw[aK h1]at a;simp only[Aa,Ad,Qx];rw[Cn (by omega) (by omega)];exact a
  ·have:i=n:=by omega
   subst this;simp only[b,aA,Aa,Y0]
theorem Beq{z:Nat->Nat}{size:Int}{Zs:Nat->Zn}(d:L5 h V zl n z q size op cnt down Zs)(a:n<=512)(b:1000<K):
 Ph K (.ptr V 0) h=some (I (Ac7 Zs n),h):=by
 simp only[Ph,Aa,d.list];exact A6r d a K 0 (by omega) (cU _)
noncomputable def Dv.append(D:Dv)(i:Int)(x:List EV):Dv × Int × Int:=
 if D.Ff i≠0 then(D,0,D.Ff i)else
 if(D.zs i.toNat).st=0/\D.op<=Ac7 D.zs D.n then(D.tick,0,33)else
 if 2<=(D.zs i.toNat).st then(D.tick,0,if(D.zs i.toNat).st=2 then 17 else Lr (D.zs i.toNat).st)else
 (D.tick.set i.toNat ((D.zs i.toNat).app D.size x),(D.zs i.toNat).l.length,0)
theorem Zn.Wf.app{size:Nat}(w:Z.Wf size)(hs:Z.st<2)(b:U8 x):(Z.app size x).Wf size:=by
 have:=w.room hs;have:=w.safe;refine⟨fun y a=>?_,?_,?_,?_,?_⟩<;>try simp only[Zn.app,aF,List.length_singleton]
 ·rcases bL.1 a with a|a
  ·exact w.u8 y a
  ·rw[aO.1 a];exact b
 ·split<;>omega
 ·omega
 ·omega
 ·split<;>omega
theorem Dv.Wf.set(w:D.Wf)(z:Z.Wf D.size):(D.set i Z).Wf:=by
 refine⟨w.size,w.n,fun j hj=>?_⟩;show(Aig D.zs i Z j).Wf D.size;unfold Aig;split
 ·exact z
 ·exact w.zs j hj
theorem Hp.An(w:D.Wf){z:Nat->Nat}(a:L5 h V zl D.n z q D.size D.op D.cnt D.down D.zs)(b:∀i,Azw V zl D.n z q D.zs i->F i)(wl:∀i,F i->i<h.next)(hb:HB h)(k:i<D.n)
 (u:Z.Wf D.size) (o:Ft h' (z i) q' D.size Z) (c:Ar (fun j=>j=z i\/((D.zs i).l≠[]/\j=q i)) h h') (m:HB h') (p:Z.l≠[]->h.next<=q'\/(q'=q i/\(D.zs i).l≠[])) :
 Hp h' V (D.set i Z) (Bh F h h')/\Ar F h h':=by
 have t:∀j,(j=z i\/((D.zs i).l≠[]/\j=q i))->F j:=by
  rintro j (y|⟨e,f⟩)
  ·exact b j (.inr (.inr ⟨i,k,.inl y⟩))
  ·exact b j (.inr (.inr ⟨i,k,.inr ⟨e,f⟩⟩))
 refine⟨⟨w.set u,Bh.lt wl c.next,zl,z,_,a.Bcf hb k o c p,?_⟩,c.mono t⟩;rintro j (y|y|⟨d,hd,y⟩)
 ·exact .inl (b j (.inl y))
 ·exact .inl (b j (.inr (.inl y)))
 ·rcases y with y|⟨e,f⟩
  ·exact .inl (b j (.inr (.inr ⟨d,hd,.inl y⟩)))
  ·by_cases g:d=i
   ·subst g
    simp only[Dv.set,Aig,A0b,bG]at e f;subst f;rcases p e with y|⟨v,A⟩
    ·obtain⟨s,_,r⟩:=o.An
     exact .inr ⟨y,m _ _ (r.block (Asa.1 e))⟩
    ·rw[v];exact .inl (t _ (.inr ⟨A,rfl⟩))
   ·simp only[Dv.set,Aig,A0b,g,aY]at e f
    exact .inl (b j (.inr (.inr ⟨d,hd,.inr ⟨e,f⟩⟩)))
theorem Az7(d:Hp h V D F)(hb:HB h)(hK:1000<K)(i:Int)(hx:x.length=64)(hu:U8 x):
 Ok (Pd K (.ptr V 0) (I i) (.agg x) h) fun v h'=>v=.tuple [I (D.append i x).2.1,I (D.append i x).2.2]/\Hp h' V (D.append i x).1 (Bh F h h')/\Ar F h h'/\HB h':=by
 simp only[Pd,Aa];have U:Ext h (h.new (.cells x 30)):=Ar.new _ _;have B:(h.new (.cells x 30)).get h.next=some (.cells x 30):=Ac _ _
 have u:HB (h.new (.cells x 30)):=hb.new _;have d1:=d.ext U;have n1:(h.new (.cells x 30)).next=h.next+1:=rfl
 generalize h.new (.cells x 30)=h1 at U B u d1 n1⊢;refine(Ad0 (K:=K) d1 u i).Ap ?_;rintro _ h2 ⟨rfl,d2,c2,f,n2⟩;have nx:¬F h.next:=fun y=>bS _ (d.lt _ y)
 have B:=c2.at u B nx;have m:Ar F h h2:=(Ext.to U).trans c2;unfold Dv.append;unfold Dv.begin at d2;by_cases e:D.Ff i=0
 ·rw[aN e]at d2
  rw[aK (by rw[e];exact fun y=>y rfl),e];simp only[I,Ad,aD,aA,Aa,Yo];obtain⟨w,wl,zl,z,q,a,b⟩:=d2;have C:D.has i=true:=by
   unfold Dv.Ff at e;cases hh:D.has i with
   | true=>rfl
   | false=>rw[hh]at e;split at e<;>simp at e
  have:=cP C;obtain⟨j,rfl⟩:∃j:Nat,i=j:=⟨i.toNat,by omega⟩;have hj:j<D.n:=by omega
  rw[show(j:Int).toNat=j from rfl];have W:=f _ _ a.dev;have E:=f _ _ a.row;have l5:=f _ _ B;have lz:=f _ _ (a.An j hj).An.choose_spec.1;have H:∀k:EV->R,Dr (.ptr zl j) h2 k=k (.ptr (z j) 0):=fun k=>by
   have:=a.Bhl hj k;unfold I at this;rw[Mg (show j<D.tick.n from hj),bC,bc]at this;exact this
  have J:∀k:EV->R,X8 1 (.slice zl 0 D.tick.n D.tick.n true) (.int .i64 (j:Int)) k=k (.ptr zl j):=fun k=>by
   rw[Mg (show j<D.tick.n from hj),bC,bc]
  simp only[Aa,Aw,Ah W,a.list,J,Ah E,H];rw[Ji (by kernel_rfl) (by kernel_rfl) (Aib (a.lift.An j hj))];have X:=Beq (K:=K) a.lift w.n hK;have dd:∀h',Ext h2 h'->Hp h' V D.tick (Bh F h h')/\Ar F h h'/\HB h':=fun h' Q=>⟨(Hp.ext ⟨w,wl,zl,z,q,a,b⟩ Q).grow d.lt (by have:=m.next;have:=Q.next;omega),m.trans (Ext.to Q),Q.hb f⟩
  have app:¬((D.zs j).st=0/\D.op<=Ac7 D.zs D.n)->Ok (Qw K (.ptr V 0) (I j) (.ptr h.next 0) h2) fun v h'=>v=.tuple [I (if(D.zs j).st=0/\D.op<=Ac7 D.zs D.n then(D.tick,0,33)else if 2<=(D.zs j).st then(D.tick,0,if(D.zs j).st=2 then 17 else Lr (D.zs j).st)else(D.tick.set j ((D.zs j).app D.size x),((D.zs j).l.length:Int),(0:Int))).2.1,I (if(D.zs j).st=0/\D.op<=Ac7 D.zs D.n then(D.tick,0,33)else if 2<=(D.zs j).st then(D.tick,0,if(D.zs j).st=2 then 17 else Lr (D.zs j).st)else(D.tick.set j ((D.zs j).app D.size x),((D.zs j).l.length:Int),(0:Int))).2.2]/\Hp h' V (if(D.zs j).st=0/\D.op<=Ac7 D.zs D.n then(D.tick,0,33)else if 2<=(D.zs j).st then(D.tick,0,if(D.zs j).st=2 then 17 else Lr (D.zs j).st)else(D.tick.set j ((D.zs j).app D.size x),((D.zs j).l.length:Int),(0:Int))).1 (Bh F h h')/\Ar F h h'/\HB h':=by
   intro Y;rw[aK Y];simp only[Qw,I,Aa,Aw,Ah W,a.list,J,Ah E,H,Ah l5,C8 B rfl,Am hx];have wz:=w.zs j hj;have ab:=w.size;have ad:=wz.len;by_cases A:2<=(D.zs j).st
   ·rw[aN A]
    refine Ok.Ds (by kernel_rfl) (by kernel_rfl) (Ayd (K:=K) (a.lift.An j hj) (Du f) A wz.st x) (fun _ _ p=>p.2) ?_;rintro _ h3 h4 ⟨rfl,_⟩ sm x4;simp only[Aa];exact .ret ⟨rfl,dd h4 x4⟩
   ·rw[aK A]
    have t:(D.zs j).st<2:=by omega
    refine Ok.Yh (S:=fun i=>i=z j\/(0<(D.zs j).l.length/\i=q j)) (by kernel_rfl) (by kernel_rfl) (fun _=>by kernel_rfl) (Azr (K:=K) (size:=D.size) (a.lift.An j hj) (Du f) t (bN ad ab) hx) (fun _ _ p=>p.2.2.1) ?_;rintro _ h3 h4 s' ⟨rfl,⟨q',zz,L⟩,_,ae⟩ sm c4 _;simp only[Aa];have O:=sm.hb ae;have af:Ft h4 (z j) q' D.size ((D.zs j).app D.size x):=zz.ext fun i o g=>by rw[sm.get];exact g
    obtain⟨d4,P⟩:=Hp.An w a b wl f hj (wz.app t hu) af (c4.mono fun i hi=>by
     rcases hi with y|⟨y1,y2⟩
     ·exact .inl y
     ·exact .inr ⟨Asa.2 y1,y2⟩) O (fun _=>.inl (by rw[Ai5]at L;exact L))
    refine .ret ⟨rfl,?_,m.trans P,O⟩;refine d4.mono (fun i hi=>?_) (Bh.lt d.lt (m.trans P).next);rcases hi with y|y
    ·exact .inl y
    ·exact .inr ⟨bN m.next y.1,y.2⟩
  simp only[I,Ad];by_cases h0:(D.zs j).st=0
  ·rw[show decide (((D.tick.zs j).st:Int)=0)=true from aP (by show((D.zs j).st:Int)=0;omega)]
   simp only[Aa,Ad];rw[Ji (by kernel_rfl) (by kernel_rfl) X];rw[Ah W (by kernel_rfl),Cy a.dev rfl];simp only[Aa,I,Ad,Ma];by_cases T:D.op<=Ac7 D.zs D.n
   ·rw[show decide (D.tick.op<=((Ac7 D.tick.zs D.tick.n:Nat):Int))=true from aP T]
    simp only[Aa];rw[aN ⟨h0,T⟩];exact .ret ⟨rfl,dd h2 (Ar.refl _)⟩
   ·rw[show decide (D.tick.op<=((Ac7 D.tick.zs D.tick.n:Nat):Int))=false from aQ T]
    simp only[Aa];exact app fun y=>T y.2
  ·rw[show decide (((D.tick.zs j).st:Int)=0)=false from aQ (by show ¬((D.zs j).st:Int)=0;omega)]
   simp only[Aa,Ad,Ma];exact app fun y=>h0 y.1
 ·rw[aK e]at d2
  rw[aN e];simp only[I,Ad,e,aG,aB,Aa];exact .ret ⟨rfl,d2.grow d.lt m.next,m,f⟩
def Dv.read(D:Dv)(i off:Int):List EV × Int:=if D.Ff i≠0 then(Uo,D.Ff i)else Agl (D.zs i.toNat) off
theorem Dv.A4y{i:Int}(a:D.Ff i=0):∃j:Nat,i=j/\j<D.n:=by
 have b:D.has i=true:=by
  unfold Dv.Ff at a;cases e:D.has i with
  | true=>rfl
  | false=>rw[e]at a;split at a<;>simp at a
 have:=cP b;exact⟨i.toNat,by omega,by omega⟩
theorem L5.A7b{z:Nat->Nat}{size:Int}{Zs:Nat->Zn}(d:L5 h V zl n z q size op cnt down Zs){j:Nat}(hj:j<n):
 (∀k:EV->R,X8 1 (.slice zl 0 n n true) (.int .i64 (j:Int)) k=k (.ptr zl j))/\(∀k:EV->R,Dr (.ptr zl j) h k=k (.ptr (z j) 0)):=by
 have a:∀k:EV->R,X8 1 (.slice zl 0 n n true) (.int .i64 (j:Int)) k=k (.ptr zl j):=fun k=>by
  rw[Mg hj,bC,bc]
 refine⟨a,fun k=>?_⟩;have:=d.Bhl hj k;unfold I at this;rw[a]at this;exact this
theorem A7d(d:Hp h V D F)(hb:HB h)(i off:Int):
 Ok (Ta K (.ptr V 0) (I i) (I off) h) fun v h'=>v=.tuple [.agg (D.read i off).1,I (D.read i off).2]/\(D.read i off).1.length=64/\Hp h' V (D.begin i) (Bh F h h')/\Ar F h h'/\HB h':=by
 simp only[Ta,Aa];have A:Ext h (h.new (.cells (List.replicate 64 (.int .u8 0)) 30)):=Ar.new _ _;have t:(h.new (.cells (List.replicate 64 (.int .u8 0)) 30)).get h.next=some (.cells Uo 30):=Ac _ _
 have k:HB (h.new (.cells (List.replicate 64 (.int .u8 0)) 30)):=hb.new _;have d1:=d.ext A;generalize h.new (.cells (List.replicate 64 (.int .u8 0)) 30)=h1 at A t k d1⊢;refine(Ad0 (K:=K) d1 k i).Ap ?_;rintro _ h2 ⟨rfl,d2,c2,m,P⟩;have nx:¬F h.next:=fun y=>bS _ (d.lt _ y)
 have t:=c2.at k t nx;have B:Ar F h h2:=(Ext.to A).trans c2;have fin:∀(l:List EV) (e:Int) (g:Ab),Ext h2 g->l.length=64->Ok (stE 64 (.ptr h.next 0) (.agg l) g fun h=>I9 TT [.c (.ptr h.next 0) 30,.v (I e)] h) (fun _ _=>True)->True:=fun _ _ _ _ _ _=>trivial
 clear fin;have fin:∀(l:List EV) (e:Int) (g:Ab) (kk:Ab->R),(∀h',kk h'=I9 TT [.c (.ptr h.next 0) 30,.v (I e)] h')->Ext h2 g->l.length=64->(l,e)=D.read i off->Ok (stE 64 (.ptr h.next 0) (.agg l) g kk) fun v h'=>v=.tuple [.agg (D.read i off).1,I (D.read i off).2]/\(D.read i off).1.length=64/\Hp h' V (D.begin i) (Bh F h h')/\Ar F h h'/\HB h':=by
  intro l e g kk C o u he;have p:=o.hb m;have L:=o.at m t;refine Ok.st l L rfl (by rw[show EV.cells (.agg l)=l from rfl,Bf,u]) (Bm (by rw[Kt];exact u.symm)) ?_;rw[C,Fu (Ae _ _ _) Aw3.1 Aw3.2 u,<-he];have O:=p _ _ L;have c3:Ar F h (g.put h.next (.cells l 30)):=(B.trans (Ext.to o)).Ak (.inr (aC _)) O _;refine .ret ⟨rfl,u,?_,c3,p.put O _⟩;refine(((d2.ext o).frame (h':=g.put h.next (.cells l 30)) (aC _) fun j hj=>Af _ fun y=>?_)).grow d.lt c3.next
  subst y;exact nx hj
 unfold Dv.read at fin⊢;by_cases f:D.Ff i=0
 ·rw[aK (by rw[f];exact fun y=>y rfl)]at fin⊢
  have E:D.begin i=D.tick:=by unfold Dv.begin;rw[aN f]
  rw[E]at d2 fin⊢;rw[f];obtain⟨j,rfl,hj⟩:=Dv.A4y f;obtain⟨zl,z,q,a,b⟩:=d2.N8;obtain⟨H,J⟩:=a.A7b (j:=j) hj;simp only[I,Ad,aD,aA,Aa,Adj,a.list,H,J];refine(A2i (K:=K) (a.An j hj) m off).Ap ?_;rintro _ g ⟨rfl,o⟩;simp only[Aa];exact fin _ _ g _ (fun _=>rfl) o (Bfq (a.An j hj).wf off) rfl
 ·rw[aN f]at fin⊢
  simp only[I,Ad,f,aG,aB,Aa];rw[Az (l:=Uo) rfl];exact fin Uo (D.Ff i) h2 _ (fun _=>rfl) (Ar.refl _) Kt rfl
noncomputable def Dv.finish(D:Dv)(i:Int):Dv × Int:=
 if D.Ff i≠0 then(D,D.Ff i)else
 (if Lr (D.zs i.toNat).st=0 then D.tick.set i.toNat (D.zs i.toNat).finish else D.tick,Lr (D.zs i.toNat).st)
theorem Zn.Wf.finish{size:Nat}(w:Z.Wf size):Z.finish.Wf size:=⟨w.u8,by show 2<=4;omega,w.safe,w.len,fun y=>absurd y (by show ¬2<2;omega)⟩
theorem A0c(d:Hp h V D F)(hb:HB h)(i:Int):
 Ok (Pr K (.ptr V 0) (I i) h) fun v h'=>v=I (D.finish i).2/\Hp h' V (D.finish i).1 (Bh F h h')/\Ar F h h'/\HB h':=by
 simp only[Pr,dr];refine(Ad0 (K:=K) d hb i).Ap ?_;rintro _ h2 ⟨rfl,d2,c2,m,H⟩;unfold Dv.finish;by_cases f:D.Ff i=0
 ·rw[aK (by rw[f];exact fun y=>y rfl),f]
  have p:D.begin i=D.tick:=by unfold Dv.begin;rw[aN f]
  rw[p]at d2;obtain⟨j,rfl,hj⟩:=Dv.A4y f;obtain⟨zl,z,q,a,b⟩:=d2.N8;obtain⟨u,A⟩:=a.A7b (j:=j) hj;simp only[I,Ad,aD,aA,Aa,Yp,a.list,u,A];refine(Ay4 (K:=K) (a.An j hj) m).Ap ?_;rintro _ B ⟨rfl,t,c3,o⟩
  try simp only[Aa]
  rw[show(j:Int).toNat=j from rfl];have t:Ft B (z j) (q j) D.size (if Lr (D.zs j).st=0 then(D.zs j).finish else D.zs j):=t;by_cases C:Lr (D.zs j).st=0
  ·simp only[C,bG]at t⊢
   obtain⟨d3,g⟩:=Hp.An d2.wf a b d2.lt m hj (d2.wf.zs j hj).finish t (c3.mono fun _=>.inl) o (fun y=>.inr ⟨rfl,y⟩);refine .ret ⟨by rw[show Lr (D.tick.zs j).st=Lr (D.zs j).st from rfl,C],d3.mono (fun i E=>?_) (Bh.lt d.lt (c2.trans g).next),c2.trans g,o⟩;rcases E with y|y
   ·exact .inl y
   ·exact .inr ⟨bN c2.next y.1,y.2⟩
  ·simp only[C,aY]at t⊢
   obtain⟨d3,g⟩:=Hp.An d2.wf a b d2.lt m hj (d2.wf.zs j hj) t (c3.mono fun _=>.inl) o (fun y=>.inr ⟨rfl,y⟩);have e:D.tick.set j (D.zs j)=D.tick:=by
    unfold Dv.set;have:Aig D.tick.zs j (D.zs j)=D.tick.zs:=by funext k;unfold Aig;split<;>simp_all [Dv.tick]
    rw[this]
   have d3:Hp B V (D.tick.set j (D.zs j)) (Bh F h2 B):=d3;rw[e]at d3;refine .ret ⟨rfl,d3.mono (fun i E=>?_) (Bh.lt d.lt (c2.trans g).next),c2.trans g,o⟩;rcases E with y|y
   ·exact .inl y
   ·exact .inr ⟨bN c2.next y.1,y.2⟩
 ·rw[aN f]
  have p:D.begin i=D:=by unfold Dv.begin;rw[aK f]
  rw[p]at d2;simp only[I,Ad,f,aG,aB,Aa];exact .ret ⟨rfl,d2.grow d.lt c2.next,c2,m⟩
noncomputable def Dv.Bm5(D:Dv):Dv:={ D with down:=true }
theorem A21(d:Hp h V D F)(hb:HB h):
 Ok (Rc K (.ptr V 0) h) fun v h'=>Hp h' V D.Bm5 F/\Ar F h h'/\HB h':=by
 obtain⟨w,wl,zl,z,q,a,b⟩:=d;simp only[Rc,Aa];have e:=hb _ _ a.dev;refine Ok.Zl a.dev rfl rfl (by show 4<5;decide) ?_;exact .ret ⟨⟨⟨w.size,w.n,w.zs⟩,wl,zl,z,q,a.A9k D.cnt true,b⟩,(Ar.refl h).Ak (.inl (b _ (.inl rfl))) e _,hb.put e _⟩
structure Ap4(h:Ab)(V zl:Nat)(z:Nat->Nat)(D:Dv)(F:Nat->Prop):Prop where
 wf:D.Wf
 lt:∀i,F i->i<h.next
 N8:∃q,L5 h V zl D.n z q D.size D.op D.cnt D.down D.zs/\∀i,Azw V zl D.n z q D.zs i->F i
theorem Hp.z(d:Hp h V D F):∃zl z,Ap4 h V zl z D F:=by
 obtain⟨zl,z,q,a,b⟩:=d.N8;exact⟨zl,z,d.wf,d.lt,q,a,b⟩
theorem Ap4.s{z:Nat->Nat}(d:Ap4 h V zl z D F):Hp h V D F:=by
 obtain⟨q,a,b⟩:=d.N8;exact⟨d.wf,d.lt,zl,z,q,a,b⟩
theorem Ap4.mono{z:Nat->Nat}(d:Ap4 h V zl z D F)(s:∀i,F i->G i)(l:∀i,G i->i<h.next):Ap4 h V zl z D G:=by
 obtain⟨q,a,b⟩:=d.N8;exact⟨d.wf,l,q,a,fun i e=>s i (b i e)⟩
theorem Ap4.congr{z:Nat->Nat}(d:Ap4 h V zl z D F){zs':Nat->Zn}(e:∀i,i<D.n->zs' i=D.zs i):Ap4 h V zl z { D with zs:=zs' } F:=by
 obtain⟨q,a,b⟩:=d.N8;refine⟨⟨d.wf.size,d.wf.n,fun i f=>?_⟩,d.lt,q,⟨a.pos,a.dev,a.row,fun i f=>?_,a.A2z,fun i j f hj=>?_⟩,?_⟩
 ·show(zs' i).Wf _;rw[e i f];exact d.wf.zs i f
 ·show Ft _ _ _ _ (zs' i);rw[e i f];exact a.An i f
 ·show(zs' i).l≠[]->(zs' j).l≠[]->_;rw[e i f,e j hj];exact a.A5s i j f hj
 ·rintro i (y|y|⟨k,g,y⟩)
  ·exact b i (.inl y)
  ·exact b i (.inr (.inl y))
  ·refine b i (.inr (.inr ⟨k,g,?_⟩))
   have y:i=z k\/(zs' k).l≠[]/\i=q k:=y;rw[e k g]at y;exact y
theorem Ap4.An{z:Nat->Nat}(d:Ap4 h V zl z D F)(a:L5 h V zl D.n z q D.size D.op D.cnt D.down D.zs)(b:∀i,Azw V zl D.n z q D.zs i->F i)(hb:HB h)(k:i<D.n)
 (u:Z.Wf D.size) (o:Ft h' (z i) q' D.size Z) (c:Ar (fun j=>j=z i\/((D.zs i).l≠[]/\j=q i)) h h') (m:HB h') (p:Z.l≠[]->h.next<=q'\/(q'=q i/\(D.zs i).l≠[])) :
 Ap4 h' V zl z (D.set i Z) (Bh F h h')/\Ar F h h':=by
 have t:∀j,(j=z i\/((D.zs i).l≠[]/\j=q i))->F j:=by
  rintro j (y|⟨e,f⟩)
  ·exact b j (.inr (.inr ⟨i,k,.inl y⟩))
  ·exact b j (.inr (.inr ⟨i,k,.inr ⟨e,f⟩⟩))
 refine⟨⟨d.wf.set u,Bh.lt d.lt c.next,_,a.Bcf hb k o c p,?_⟩,c.mono t⟩;rintro j (y|y|⟨d,hd,y⟩)
 ·exact .inl (b j (.inl y))
 ·exact .inl (b j (.inr (.inl y)))
 ·rcases y with y|⟨e,f⟩
  ·exact .inl (b j (.inr (.inr ⟨d,hd,.inl y⟩)))
  ·by_cases g:d=i
   ·subst g
    simp only[Dv.set,Aig,A0b,bG]at e f;subst f;rcases p e with y|⟨v,A⟩
    ·obtain⟨s,_,r⟩:=o.An
     exact .inr ⟨y,m _ _ (r.block (Asa.1 e))⟩
    ·rw[v];exact .inl (t _ (.inr ⟨A,rfl⟩))
   ·simp only[Dv.set,Aig,A0b,g,aY]at e f
    exact .inl (b j (.inr (.inr ⟨d,hd,.inr ⟨e,f⟩⟩)))
def Awq(f:Nat->Zn->Zn)(zs:Nat->Zn)(i:Nat):Nat->Zn:=fun j=>if j<i then f j (zs j)else zs j
theorem A8y(f:Nat->Zn->Zn)(zs:Nat->Zn)(i:Nat):Awq f zs (i+1)=Aig (Awq f zs i) i (f i (zs i)):=by
 funext j;unfold Awq Aig;by_cases h1:j=i
 ·subst h1;simp
 ·by_cases h2:j<i
  ·rw[aN (by omega),aK h1];exact(aN h2).symm
  ·rw[aK (by omega),aK h1];exact(aK h2).symm
theorem A6i(f:Nat->Zn->Zn)(zs:Nat->Zn)(i:Nat):Awq f zs i i=zs i:=by unfold Awq;rw[aK (by omega)]
noncomputable def Dv.flush(D:Dv):Dv × Int:=if D.down=true then(D,34)else({ D.tick with zs:=fun i=>(D.zs i).flush },0)
theorem Zn.Wf.flush{size:Nat}(w:Z.Wf size):Z.flush.Wf size:=⟨w.u8,w.st,aC _,w.len,w.room⟩
theorem A9g{z:Nat->Nat}(h0:Ab)(k:∀j,F j->j<h0.next):∀(m i:Nat) (h:Ab),D.n-i<m->i<=D.n->HB h->Ar F h0 h->Ap4 h V zl z { D with zs:=Awq (fun _ Z=>Z.flush) D.zs i } (Bh F h0 h) ->
 Ok (J5 K m (.slice zl 0 D.n D.n true) (I D.n) (I i) h) fun v h'=>v=I 0/\Ap4 h' V zl z { D with zs:=Awq (fun _ Z=>Z.flush) D.zs D.n } (Bh F h0 h')/\Ar F h0 h'/\HB h':=by
 intro m;induction m with
 | zero=>intro i h hm;omega
 | succ m C=>
  intro i h hm H hb c d;have u:=d.wf.n;have u:D.n<=512:=u;simp only[J5,I,Ad,Aa];by_cases f:(i:Int)<D.n
  ·have e:i<D.n:=by omega
   obtain⟨q,a,b⟩:=d.N8;obtain⟨o,p⟩:=a.A7b (j:=i) e;simp only[f,aB,Aa,Aap,o,p];have A:=a.An i e;have B:=d.wf.zs i e;simp only[A6i]at A B;refine(A0d (K:=K) A hb).Ap ?_;rintro _ h1 ⟨E,c1,g⟩;simp only[Aa1,I,Ad];rw[Cn (by omega) (by omega)];obtain⟨d1,t⟩:=d.An a b hb e B.flush E (c1.mono fun _=>.inl) g (fun y=>.inr ⟨rfl,by simp only[A6i];exact y⟩);have c2:=c.grow t;refine C (i+1) h1 (by omega) (by omega) g c2 ?_;rw[A8y];exact d1.mono (fun j hj=>Bh.trans c.next c1.next hj) (Bh.lt k c2.next)
  ·have:i=D.n:=by omega
   subst this;simp only[f,aA,Aa,Aaw];exact .ret ⟨rfl,d,c,hb⟩
theorem A27(d:Hp h V D F)(hb:HB h)(m:1000<K):
 Ok (Rf K (.ptr V 0) h) fun v h'=>v=I D.flush.2/\Hp h' V D.flush.1 (Bh F h h')/\Ar F h h'/\HB h':=by
 obtain⟨w,wl,zl,z,q,a,b⟩:=d;have o:=w.n;unfold Dv.flush;simp only[Rf,Aa,Cy a.dev rfl];cases hd:D.down with
 | true=>
  simp only[Aa,bG];exact .ret ⟨rfl,Hp.grow ⟨w,wl,zl,z,q,a,b⟩ wl (aC _),Ar.refl _,hb⟩
 | false=>
  simp only[Aa,aU,aY,Abr,Cy a.dev rfl,I,Ad];have g:=hb _ _ a.dev;refine Ok.Zl a.dev rfl rfl (by show 3<5;decide) ?_;have c1:Ar F h (h.put V (.cells ([EV.slice zl 0 D.n D.n true,I D.size,I D.op,I D.cnt,.bool D.down].set 3 (.int .i64 (Cx .i64 (D.cnt+1)))) 152)):=(Ar.refl h).Ak (.inl (b _ (.inl rfl))) g _;have e:HB (h.put V (.cells ([EV.slice zl 0 D.n D.n true,I D.size,I D.op,I D.cnt,.bool D.down].set 3 (.int .i64 (Cx .i64 (D.cnt+1)))) 152)):=hb.put g _;have d1:Ap4 (h.put V (.cells ([EV.slice zl 0 D.n D.n true,I D.size,I D.op,I D.cnt,.bool D.down].set 3 (.int .i64 (Cx .i64 (D.cnt+1)))) 152)) V zl z D.tick F:=⟨⟨w.size,w.n,w.zs⟩,wl,q,a.A9k (Cx .i64 (D.cnt+1)) D.down,b⟩;generalize h.put V (.cells ([EV.slice zl 0 D.n D.n true,I D.size,I D.op,I D.cnt,.bool D.down].set 3 (.int .i64 (Cx .i64 (D.cnt+1)))) 152)=h1 at c1 e d1⊢;obtain⟨p,j,b1⟩:=d1.N8;rw[Cy j.dev rfl];simp only[Aa];have:=A9g (K:=K) (D:=D.tick) (F:=F) h wl K 0 h1 (by show D.n-0<K;omega) (cU _) e c1 (Ap4.congr (d1.mono (fun _=>.inl) (Bh.lt wl c1.next)) (fun i _=>by unfold Awq;rw[aK (cT _)]));refine this.mono ?_;rintro v h2 ⟨rfl,d2,c2,f⟩;refine⟨rfl,?_,c2,f⟩;exact(d2.congr (zs':=fun i=>(D.zs i).flush) fun i k=>(aN k).symm).s
def Dv.fail(D:Dv)(i:Int)(st:Nat):Dv:=if D.has i=true then D.set i.toNat ((D.zs i.toNat).fail st)else D
theorem Zn.Wf.fail{size:Nat}(w:Z.Wf size)(st:Nat):(Z.fail st).Wf size:=by
 unfold Zn.fail;split
 ·exact⟨w.u8,by show st<=4;omega,w.safe,w.len,fun y=>absurd y (by show ¬st<2;omega)⟩
 ·exact w
theorem A5x(d:Hp h V D F)(hb:HB h)(i:Int)(st:Nat):
 Ok (O2 K (.ptr V 0) (I i) (I st) h) fun v h'=>Hp h' V (D.fail i st) (Bh F h h')/\Ar F h h'/\HB h':=by
 simp only[O2,Ali d,Aa];unfold Dv.fail;cases m:D.has i with
 | false=>
  simp only[Aa,aU,aY];exact .ret ⟨d.grow d.lt (aC _),Ar.refl _,hb⟩
 | true=>
  have:=cP m;obtain⟨j,rfl⟩:∃j:Nat,i=j:=⟨i.toNat,by omega⟩;have hj:j<D.n:=by omega
  obtain⟨zl,z,q,a,b⟩:=d.N8;obtain⟨f,g⟩:=a.A7b (j:=j) hj;simp only[Aa,bG,Adg,a.list];unfold I;rw[f,g];refine(A3d (K:=K) (a.An j hj) hb st).Ap ?_;rintro _ p ⟨o,c3,e⟩;obtain⟨d3,k⟩:=Hp.An d.wf a b d.lt hb hj ((d.wf.zs j hj).fail st) o (c3.mono fun _=>.inl) e (fun y=>.inr ⟨rfl,by
   unfold Zn.fail at y;split at y<;>exact y⟩)
  exact .ret ⟨d3,k,e⟩
def kp(a b:Int):EV:=.agg [I a,I b]
def Aka(ms:List (EV × EV)):Prop:=∀e∈ms,∃a b p n,e=(kp a b,.agg (p++[I n]))/\U8 p/\p.length=64
theorem Atn(a b:Int):Aiy (I a) (I b)=some (decide (a=b)):=by
 show Bb (Nat.beq (Qb .i64) (Qb .i64)) (some (eqB a b)) none=_;rw[cI,Al,Aip]
theorem Bg4(a b c d:Int):Auz (kp a b) (kp c d)=some (decide (a=c/\b=d)):=by
 show Fv [I a,I b] [I c,I d]=_;unfold Fv;rw[Atn];by_cases h1:a=c
 ·rw[aP h1]
  simp only[Fv,Atn];by_cases h2:b=d
  ·rw[aP h2,aP ⟨h1,h2⟩]
  ·rw[aQ h2,aQ fun y=>h2 y.2]
 ·rw[aQ h1,aQ fun y=>h1 y.1]
  simp only[Fv,Atn];by_cases h2:b=d
  ·rw[aP h2]
  ·rw[aQ h2]
theorem Ak3(a b:Int):∀(ms:List (EV × EV)) (i:Nat),Aka ms->H0 (kp a b) ms i=some none\/∃j p n,H0 (kp a b) ms i=some (some (j,.agg (p++[I n])))/\U8 p/\p.length=64
 | [],i,_=>.inl rfl
 | (x,y)::r,i,hm=>by
  obtain⟨g,k,p,n,e,m,o⟩:=hm _ (aV ..);cases e;have t:=Ak3 a b r (Nat.succ i) fun e he=>hm e (aT _ he)
  unfold H0;rw[Bg4];by_cases f:a=g/\b=k
  ·rw[aP f];exact .inr ⟨i,p,n,rfl,m,o⟩
  ·rw[aQ f];exact t
theorem Are(a b:Int):Om TT 179 (kp a b)=true:=by
 have h1:TT.key 179=true:=by kernel_rfl
 have h2:TT.eqs 179=some [0,0]:=by kernel_rfl
 unfold Om kp;simp only[h1,h2,Al];rw[show shaped [0,0] [I a,I b]=true from rfl,Al];simp only[Fv,Atn,aB]
theorem A07(f:h.get M=some (.map ms))(hm:Aka ms)(a b:Int):∃ms',builtin TT .delete #[147,179] [.map M,kp a b] h=some (.tuple [],h.put M (.map ms'))/\Aka ms':=by
 have hu:TT.Tv 147=some (.map 179 342):=by kernel_rfl
 have e:builtin TT .delete #[147,179] [.map M,kp a b] h=Bb (Om TT 179 (kp a b)) (match h.get M with
  | some (.map es)=>match H0 (kp a b) es 0 with
   | some (some (j,_))=>some (.tuple [],h.put M (.map (es.eraseIdx j)))
   | some none=>some (.tuple [],h.put M (.map es))
   | none=>none
  | _=>none) none:=by
  unfold builtin;simp only[hu];rfl
 rw[e,Are,Al,f];rcases Ak3 a b ms 0 hm with y|⟨j,p,n,y,_⟩
 ·simp only[y];exact⟨ms,rfl,hm⟩
 ·simp only[y];exact⟨_,rfl,fun e he=>hm e (List.mem_of_mem_eraseIdx he)⟩
theorem Be6(f:h.get M=some (.map ms))(hm:Aka ms)(a b:Int):∃p n,Aph TT 179 342 false (.map M) (kp a b) h=some (.agg (p++[I n]),h)/\U8 p/\p.length=64:=by
 have e:Aph TT 179 342 false (.map M) (kp a b) h=Bb (Om TT 179 (kp a b)) (match h.get M with
  | some (.map es)=>match H0 (kp a b) es 0 with
   | some (some (_,v))=>some (v,h)
   | some none=>oB (fun g=>some (g,h)) (zeroOf TT 342)
   | none=>none
  | _=>none) none:=rfl
 have k:zeroOf TT 342=some (.agg (Uo++[I 0])):=by kernel_rfl
 rw[e,Are,Al,f];rcases Ak3 a b ms 0 hm with y|⟨j,p,n,y,m,o⟩
 ·simp only[y,k];exact⟨Uo,0,rfl,U8.zs,Kt⟩
 ·simp only[y];exact⟨p,n,rfl,m,o⟩
theorem A2h(k:h.get M=some (.map ms))(hm:Aka ms)(a b:Int){p:List EV}{n:Int}(f:U8 p)(g:p.length=64):∃ms',Zq TT 179 (.map M) (kp a b) (.agg (p++[I n])) h=some (.tuple [],h.put M (.map ms'))/\Aka ms':=by
 have e:Zq TT 179 (.map M) (kp a b) (.agg (p++[I n])) h=Bb (Om TT 179 (kp a b)) (match h.get M with
  | some (.map es)=>match H0 (kp a b) es 0 with
   | some (some (j,_))=>some (.tuple [],h.put M (.map (es.set j (kp a b,.agg (p++[I n])))))
   | some none=>some (.tuple [],h.put M (.map (es++[(kp a b,.agg (p++[I n]))])))
   | none=>none
  | _=>none) none:=rfl
 rw[e,Are,Al,k];rcases Ak3 a b ms 0 hm with y|⟨j,m,o,y,_⟩
 ·simp only[y]
  refine⟨_,rfl,fun e he=>?_⟩;rcases bL.1 he with he|he
  ·exact hm e he
  ·rw[aO.1 he];exact⟨a,b,p,n,rfl,f,g⟩
 ·simp only[y]
  refine⟨_,rfl,fun e he=>?_⟩;rcases dF he with he|he
  ·exact hm e he
  ·rw[he];exact⟨a,b,p,n,rfl,f,g⟩
structure Lq where
 N8:Int
 kind:Int
 An:Int
 off:Int
 pat:List EV
def Lq.cells(e:Lq):List EV:=[I e.N8,I e.kind,I e.An,I e.off]++e.pat
structure Lq.Wf(e:Lq):Prop where
 u8:U8 e.pat
 len:e.pat.length=64
structure Mc where
 dv:Dv
 ev:List Lq
 P8:List Lq
def Bp5:EV->EV->EV
 | .int k x,.int _ y=>.int k (Int.ofNat (Nat.xor x.toNat y.toNat))
 | a,_=>a
def X1(a b:List EV):List EV:=List.zipWith Bp5 a b
def Dv.Av7(D:Dv)(z off:Int)(p:List EV):Dv:=
 if D.has z=true/\0<=off/\off<(D.zs z.toNat).l.length then D.set z.toNat { D.zs z.toNat with l:=(D.zs z.toNat).l.set off.toNat (X1 (((D.zs z.toNat).l[off.toNat]?).getD Uo) p) }else D
noncomputable def Dv.Sx(D:Dv)(e:Lq):Dv:=
 if e.kind=1 then D.Av7 e.An e.off e.pat else if e.kind=2 then D.fail e.An 3 else if e.kind=3 then D.fail e.An 4 else if e.kind=4 then D.Bm5 else D
noncomputable def Az8:List Lq->Dv->List Lq->Mc
 | [],D,k=>⟨D,[],k⟩
 | e::r,D,k=>if D.down=true\/¬e.N8<=D.cnt then⟨D,e::r,k⟩else Az8 r (D.Sx e) (k++[e])
noncomputable def Mc.due(S:Mc):Mc:=Az8 S.ev S.dv S.P8
structure Mc.Wf(S:Mc):Prop where
 ev:S.ev.length+S.P8.length<=200
 wf:∀e∈S.ev,e.Wf
 Z1:∀e∈S.P8,e.Wf
structure Aeh(h:Ab)(D V M qc qh:Nat)(cs hs:EV)(ms:List (EV × EV))(S:Mc)(F G:Nat->Prop):Prop where
 Dc:h.get D=some (.cells [.ptr V 0,cs,hs,.map M] 149)
 map:h.get M=some (.map ms)
 marks:Aka ms
 Gt:Ci h cs qc 32 68 S.ev.length (S.ev.map Lq.cells).flatten
 An7:Ci h hs qh 32 68 S.P8.length (S.P8.map Lq.cells).flatten
 dev:Hp h V S.dv F
 sub:(∀i,F i->G i)/\G D/\G M/\(0<S.ev.length->G qc)/\(0<S.P8.length->G qh)
 apart:¬F D/\¬F M/\(0<S.ev.length->¬F qc)/\(0<S.P8.length->¬F qh)/\(0<S.ev.length->0<S.P8.length->qc≠qh)
structure F0(h:Ab)(D:Nat)(S:Mc)(G:Nat->Prop):Prop where
 lt:∀i,G i->i<h.next
 wf:S.Wf
 N8:∃V M qc qh cs hs ms F,Aeh h D V M qc qh cs hs ms S F G
theorem Aeh.mono{D:Nat}{S:Mc}{b:Nat->Prop}(a:Aeh h D V M qc qh cs hs ms S F G)(s:∀i,G i->b i):Aeh h D V M qc qh cs hs ms S F b:=
 ⟨a.Dc,a.map,a.marks,a.Gt,a.An7,a.dev,⟨fun i e=>s i (a.sub.1 i e),s _ a.sub.2.1,s _ a.sub.2.2.1,fun y=>s _ (a.sub.2.2.2.1 y),fun y=>s _ (a.sub.2.2.2.2 y)⟩,a.apart⟩
theorem F0.mono{D:Nat}{S:Mc}{b:Nat->Prop}(d:F0 h D S G)(s:∀i,G i->b i)(l:∀i,b i->i<h.next):F0 h D S b:=by
 obtain⟨V,M,qc,qh,cs,hs,ms,F,a⟩:=d.N8;exact⟨l,d.wf,V,M,qc,qh,cs,hs,ms,F,a.mono s⟩
theorem F0.grow{D:Nat}{S:Mc}(d:F0 h' D S G)(l:∀i,G i->i<h.next)(n:h.next<=h'.next):F0 h' D S (Bh G h h'):=d.mono (fun _=>.inl) (Bh.lt l n)
theorem F0.Bhk{D:Nat}{S:Mc}(d:F0 h2 D S (Bh (Bh G h h1) h1 h2))(a:h.next<=h1.next)(b:h1.next<=h2.next)(l:∀i,G i->i<h.next):F0 h2 D S (Bh G h h2):=
 d.mono (fun _=>Bh.trans a b) (Bh.lt l (bN a b))
theorem Aeh.frame{D:Nat}{S:Mc}(a:Aeh h D V M qc qh cs hs ms S F G)(n:h.next<=h'.next)(e:∀i,G i->h'.get i=h.get i):Aeh h' D V M qc qh cs hs ms S F G:=
 ⟨by rw[e _ a.sub.2.1];exact a.Dc,by rw[e _ a.sub.2.2.1];exact a.map,a.marks,a.Gt.frame fun y=>e _ (a.sub.2.2.2.1 y),a.An7.frame fun y=>e _ (a.sub.2.2.2.2 y),a.dev.frame n fun i b=>e i (a.sub.1 i b),a.sub,a.apart⟩
theorem F0.frame{D:Nat}{S:Mc}(d:F0 h D S G)(n:h.next<=h'.next)(e:∀i,G i->h'.get i=h.get i):F0 h' D S G:=by
 obtain⟨V,M,qc,qh,cs,hs,ms,F,a⟩:=d.N8;exact⟨fun i b=>aL (d.lt i b) n,d.wf,V,M,qc,qh,cs,hs,ms,F,a.frame n e⟩
theorem F0.chg{D:Nat}{S:Mc}{T:Nat->Prop}(d:F0 h D S G)(c:Ar T h h')(n:∀i,G i->¬T i):F0 h' D S G:=d.frame c.next fun i a=>c.get i (d.lt i a) (n i a)
theorem F0.ext{D:Nat}{S:Mc}(d:F0 h D S G)(c:Ext h h'):F0 h' D S G:=d.chg c fun _ _=>id
theorem Aeh.put{D:Nat}{S:Mc}(a:Aeh h D V M qc qh cs hs ms S F G)(hb:HB h)(d:Hp h' V dv (Bh F h h'))(c:Ar F h h'):
 Aeh h' D V M qc qh cs hs ms { S with dv:=dv } (Bh F h h') (Bh G h h'):=by
 have lq:∀{s q n l},Ci h s q 32 68 n l->0<n->q<h.next:=fun r y=>hb _ _ (r.block y)
 have e:∀{i},¬F i->i<h.next->¬Bh F h h' i:=fun y l z=>by
  rcases z with z|z
  ·exact y z
  ·omega
 refine⟨c.at hb a.Dc a.apart.1,c.at hb a.map a.apart.2.1,a.marks,a.Gt.frame fun y=>c.get _ (lq a.Gt y) (a.apart.2.2.1 y),a.An7.frame fun y=>c.get _ (lq a.An7 y) (a.apart.2.2.2.1 y),d,⟨fun i b=>?_,.inl a.sub.2.1,.inl a.sub.2.2.1,fun y=>.inl (a.sub.2.2.2.1 y),fun y=>.inl (a.sub.2.2.2.2 y)⟩,⟨e a.apart.1 (hb _ _ a.Dc),e a.apart.2.1 (hb _ _ a.map),fun y=>e (a.apart.2.2.1 y) (lq a.Gt y),fun y=>e (a.apart.2.2.2.1 y) (lq a.An7 y),a.apart.2.2.2.2⟩⟩;rcases b with b|b
 ·exact .inl (a.sub.1 i b)
 ·exact .inr b
theorem F0.put{D:Nat}{S:Mc}(s:F0 h D S G)(a:Aeh h D V M qc qh cs hs ms S F G)(hb:HB h)(d:Hp h' V dv (Bh F h h'))(c:Ar F h h'):
 F0 h' D { S with dv:=dv } (Bh G h h')/\Ar G h h':=
 ⟨⟨Bh.lt s.lt c.next,⟨s.wf.ev,s.wf.wf,s.wf.Z1⟩,V,M,qc,qh,cs,hs,ms,_,a.put hb d c⟩,c.mono a.sub.1⟩
theorem Aeh.Bid{D:Nat}{S:Mc}(a:Aeh h D V M qc qh cs hs ms S F G)(hm:Aka ms'):
 Aeh (h.put M (.map ms')) D V M qc qh cs hs ms' S F G:=by
 refine⟨?_,Ae _ _ _,hm,a.Gt.frame fun y=>Af _ ?_,a.An7.frame fun y=>Af _ ?_,a.dev.frame (aC _) fun i b=>Af _ fun y=>?_,a.sub,a.apart⟩
 ·rw[Af _ (Be a.map a.Dc (by simp))];exact a.Dc
 ·exact Be a.map (a.Gt.block y) (by simp)
 ·exact Be a.map (a.An7.block y) (by simp)
 ·rw[<-y]at b;exact a.apart.2.1 b
theorem F0.Bid{D:Nat}{S:Mc}(s:F0 h D S G)(a:Aeh h D V M qc qh cs hs ms S F G)(hb:HB h)(hm:Aka ms'):
 F0 (h.put M (.map ms')) D S G/\Ar G h (h.put M (.map ms'))/\HB (h.put M (.map ms')):=by
 have b:=hb _ _ a.map;exact⟨⟨s.lt,s.wf,V,M,qc,qh,cs,hs,ms',F,a.Bid hm⟩,(Ar.refl h).Ak (.inl a.sub.2.2.1) b _,hb.put b _⟩
theorem Az4{D:Nat}{S:Mc}(a:Aeh h D V M qc qh cs hs ms S F G):E3 K (.ptr D 0) h=some (.ptr V 0,h):=by simp only[E3,Aa,Cy a.Dc rfl]
def Bna(disp:Nat->Option FT)(K d:Nat)(S:Mc):Prop:=∀(h:Ab) (D:Nat) (G:Nat->Prop),F0 h D S G->HB h->Ok (Ag TT disp K d false 172 [.ptr D 0] h) fun v h'=>F0 h' D S.due (Bh G h h')/\Ar G h h'/\HB h'
variable {S:Mc}
noncomputable def Mc.begin(S:Mc)(i:Int):Mc:=if S.dv.has i=true then S.due else S
def A4i(disp:Nat->Option FT)(K:Nat)(S:Mc):Prop:=∀d,12<=d->Bna disp K d S
theorem Adz(H:Ca disp){d:Nat}(hd:13<=d){D:Nat}(f:A4i disp K S)(s:F0 h D S G)(hb:HB h)(i:Int):
 Ok (Ag TT disp K d false 102 [.ptr D 0,I i] h) fun v h'=>F0 h' D (S.begin i) (Bh G h h')/\Ar G h h'/\HB h':=by
 obtain⟨e,rfl⟩:∃k,d=k+1:=⟨d-1,by omega⟩;rw[Am3 H (by omega)];obtain⟨V,M,qc,qh,cs,m,ms,F,a⟩:=s.N8;obtain⟨zl,z,q,b,_⟩:=a.dev.N8;have fin:Ok (some (.tuple [],h)) fun(_:EV) h'=>F0 h' D S (Bh G h h')/\Ar G h h'/\HB h':=.ret ⟨s.grow s.lt (aC _),Ar.refl _,hb⟩
 unfold Mc.begin;simp only[Ait,I,Ad,Aa];by_cases h0:0<=i
 ·have j:=Atd (K:=K) b
  simp only[I]at j;simp only[h0,aB,Aa,Cy a.Dc rfl,j,Ad,T7];by_cases h1:i<S.dv.n
  ·have g:S.dv.has i=true:=aP ⟨h0,h1⟩
   simp only[h1,aB,Aa];rw[g,aN rfl];refine(f e (by omega) h D G s hb).Ap ?_;intro v h' p;exact .ret p
  ·have g:S.dv.has i=false:=aQ fun y=>h1 y.2
   simp only[h1,aA,Aa];rw[g,aK (by simp)];exact fin
 ·have g:S.dv.has i=false:=aQ fun y=>h0 y.1
  simp only[h0,aA,Aa,T7];rw[g,aK (by simp)];exact fin
noncomputable def Mc.append(S:Mc)(i:Int)(x:List EV):Mc × Int × Int:=({ S.begin i with dv:=((S.begin i).dv.append i x).1 },((S.begin i).dv.append i x).2)
theorem Aqr(H:Ca disp)(X:1000<K){d:Nat}(hd:14<=d){D:Nat}(u:A4i disp K S)(s:F0 h D S G)(hb:HB h)(i:Int)(O:x.length=64)(hu:U8 x):
 Ok (Ag TT disp K d false 45 [.ptr D 0,I i,.agg x] h) fun v h'=>v=.tuple [I (S.append i x).2.1,I (S.append i x).2.2]/\F0 h' D (S.append i x).1 (Bh G h h')/\Ar G h h'/\HB h':=by
 obtain⟨e,rfl⟩:∃k,d=k+1:=⟨d-1,by omega⟩;rw[Amp H (by omega)];simp only[Ag8,Aa];have g:Ext h (h.new (.cells x 30)):=Ar.new _ _;have A:(h.new (.cells x 30)).get h.next=some (.cells x 30):=Ac _ _
 have m:HB (h.new (.cells x 30)):=hb.new _;have s1:=s.ext g;have Y:(h.new (.cells x 30)).next=h.next+1:=rfl
 generalize h.new (.cells x 30)=h1 at g A m s1 Y⊢;refine(Adz (K:=K) H (by omega) u s1 m i).Ap ?_;rintro _ h2 ⟨s2,c2,b⟩;have nx:¬G h.next:=fun y=>bS _ (s.lt _ y)
 have A:=c2.at m A nx;have o:Ar G h h2:=(Ext.to g).trans c2;have s2:F0 h2 D (S.begin i) (Bh G h1 h2):=s2;unfold Mc.append;generalize S.begin i=T at s2⊢;obtain⟨V,M,qc,qh,cs,E,ms,F,a⟩:=s2.N8;have lD:=b _ _ a.Dc;have l5:=b _ _ A;simp only[Aa,Aw,Ah lD,Cy a.Dc rfl,Ah l5,C8 A rfl,Am O];refine Ok.Yh (S:=F) (by kernel_rfl) (by kernel_rfl) (fun _=>by kernel_rfl) (Az7 (K:=K) a.dev.lift (Du b) X i O hu) (fun _ _ p=>p.2.2.1) ?_;rintro _ h3 h4 s' ⟨rfl,d3,_,J⟩ sm c4 _;have t:=sm.hb J;have d4:Hp h4 V (T.dv.append i x).1 (Bh F h2 h4):=by
  have:=d3.frame (h':=h4) (by rw[sm.next];exact aC _) fun j _=>sm.get j
  refine this.mono (fun j hj=>?_) (Bh.lt a.dev.lt c4.next);rcases hj with y|y
  ·exact .inl y
  ·exact .inr ⟨y.1,by rw[sm.next];exact y.2⟩
 have a4:=a.put b d4 c4;obtain⟨B,f⟩:=s2.put a b d4 c4;have C:Ar G h h4:=by
  refine o.then f fun j hj hl=>?_
  rcases hj with y|y
  ·exact y
  ·have:=g.next;omega
 have B:F0 h4 D { T with dv:=(T.dv.append i x).1 } (Bh G h h4):=B.mono (fun j hj=>by
  rcases hj with(y|y)|y
  ·exact .inl y
  ·have:=g.next;have:=f.next;exact .inr ⟨by omega,by omega⟩
  ·have:=o.next;exact .inr ⟨by omega,y.2⟩) (Bh.lt s.lt C.next)
 simp only[Aa,I,Ad];by_cases P:(T.dv.append i x).2.2=0
 ·simp only[P,aB,Aa,Cy a4.Dc rfl]
  rw[Az (l:=[I i,I (T.dv.append i x).2.1]) rfl];obtain⟨ms',e1,L⟩:=A07 a4.map a4.marks i (T.dv.append i x).2.1;unfold kp at e1;rw[e1,Au];simp only[Si,dr];obtain⟨V',M',ad,ae,af,Q,U,F',a5⟩:=B.N8;have W:=t _ _ a4.map;have a6:=a4.Bid L;have gM:Bh G h h4 M:=by
   rcases a.sub.2.2.1 with y|y
   ·exact .inl y
   ·have:=g.next;have:=f.next;exact .inr ⟨by omega,by omega⟩
  have c5:Ar (Bh G h h4) h4 (h4.put M (.map ms')):=(Ar.refl h4).Ak (.inl gM) W _;refine .ret ⟨rfl,⟨Bh.lt s.lt (C.grow c5).next,B.wf,V,M,qc,qh,cs,E,ms',_,a6.mono fun j hj=>?_⟩,C.grow c5,t.put W _⟩;show Bh G h h4 j;rcases hj with(y|y)|y
  ·exact .inl y
  ·have:=g.next;have:=f.next;exact .inr ⟨by omega,by omega⟩
  ·have:=o.next;exact .inr ⟨by omega,y.2⟩
 ·simp only[P,aA,Aa,Si]
  exact .ret ⟨rfl,B,C,t⟩
noncomputable def Mc.read(S:Mc)(i off:Int):Mc × List EV × Int:=({ S.begin i with dv:=(S.begin i).dv.begin i },(S.begin i).dv.read i off)
theorem A6d(H:Ca disp){d:Nat}(hd:14<=d){D:Nat}(o:A4i disp K S)(s:F0 h D S G)(hb:HB h)(i off:Int):
 Ok (Ag TT disp K d false 227 [.ptr D 0,I i,I off] h) fun v h'=>v=.tuple [.agg (S.read i off).2.1,I (S.read i off).2.2]/\(S.read i off).2.1.length=64/\F0 h' D (S.read i off).1 (Bh G h h')/\Ar G h h'/\HB h':=by
 obtain⟨e,rfl⟩:∃k,d=k+1:=⟨d-1,by omega⟩;rw[Aqb H (by omega)];simp only[Alz,Aa];have p:Ext h (h.new (.cells (List.replicate 64 (.int .u8 0)) 30)):=Ar.new _ _;have g:(h.new (.cells (List.replicate 64 (.int .u8 0)) 30)).get h.next=some (.cells Uo 30):=Ac _ _
 have b:HB (h.new (.cells (List.replicate 64 (.int .u8 0)) 30)):=hb.new _;have s1:=s.ext p;generalize h.new (.cells (List.replicate 64 (.int .u8 0)) 30)=h1 at p g b s1⊢;refine(Adz (K:=K) H (by omega) o s1 b i).Ap ?_;rintro _ h2 ⟨s2,c2,f⟩;have nx:¬G h.next:=fun y=>bS _ (s.lt _ y)
 have g:=c2.at b g nx;have O:h.next<h1.next:=by
  have:=f _ _ g;rcases dH h.next h1.next with y|y
  ·exact y
  ·exact absurd (b _ _ (show h1.get h.next=some (.cells Uo 30) by assumption)) (by omega)
 have t:Ar G h h2:=(Ext.to p).trans c2;unfold Mc.read;generalize S.begin i=T at s2⊢;obtain⟨V,M,qc,qh,cs,E,ms,F,a⟩:=s2.N8;simp only[Aa,Cy a.Dc rfl];refine(A7d (K:=K) a.dev f i off).Ap ?_;rintro _ B ⟨rfl,hlen,d3,c3,u⟩;obtain⟨J,m⟩:=s2.put a f d3 c3;have C:¬Bh G h1 h2 h.next:=by
  rintro(y|y)
  ·exact nx y
  ·omega
 have g:=m.at f g C;have A:=u _ _ g;simp only[Aa];refine Ok.st (T.dv.read i off).1 g rfl (by rw[show EV.cells (.agg (T.dv.read i off).1)=(T.dv.read i off).1 from rfl,Bf,hlen]) (Bm (by rw[Kt];exact hlen.symm)) ?_;rw[Fu (Ae _ _ _) Aw3.1 Aw3.2 hlen];have L:Ar G h B:=by
  refine t.then m fun j hj P=>?_
  rcases hj with y|y
  ·exact y
  ·have:=p.next;omega
 have c4:Ar G h (B.put h.next (.cells (T.dv.read i off).1 30)):=L.Ak (.inr (aC _)) A _;refine .ret ⟨rfl,hlen,?_,c4,u.put A _⟩;refine F0.mono (J.frame (h':=B.put h.next (.cells (T.dv.read i off).1 30)) (aC _) fun j hj=>Af _ fun y=>?_) (fun j hj=>?_) (Bh.lt s.lt c4.next)
 ·subst y
  rcases hj with y|y
  ·exact C y
  ·have:=c2.next;omega
 ·show Bh G h B j
  rcases hj with(y|y)|y
  ·exact .inl y
  ·have:=p.next;have:=m.next;exact .inr ⟨by omega,by omega⟩
  ·have:=t.next;exact .inr ⟨by omega,y.2⟩
noncomputable def Mc.flush(S:Mc):Mc × Int:=({ S.due with dv:=S.due.dv.flush.1 },S.due.dv.flush.2)
theorem At2(H:Ca disp)(m:1000<K){d:Nat}(hd:14<=d){D:Nat}(b:A4i disp K S)(s:F0 h D S G)(hb:HB h):
 Ok (Ag TT disp K d false 140 [.ptr D 0] h) fun v h'=>v=I S.flush.2/\F0 h' D S.flush.1 (Bh G h h')/\Ar G h h'/\HB h':=by
 obtain⟨e,rfl⟩:∃k,d=k+1:=⟨d-1,by omega⟩;rw[Ano H (by omega)];simp only[Ai2,dr];refine(b e (by omega) h D G s hb).Ap ?_;rintro _ h2 ⟨s2,c2,f⟩;unfold Mc.flush;generalize S.due=T at s2⊢;obtain⟨V,M,qc,qh,cs,o,ms,F,a⟩:=s2.N8;simp only[Aa,Cy a.Dc rfl];refine(A27 (K:=K) a.dev f m).Ap ?_;rintro _ t ⟨rfl,d3,c3,j⟩;obtain⟨p,g⟩:=s2.put a f d3 c3;exact .ret ⟨rfl,p.Bhk c2.next g.next s.lt,c2.grow g,j⟩
noncomputable def Mc.finish(S:Mc)(i:Int):Mc × Int:=({ S.begin i with dv:=((S.begin i).dv.finish i).1 },((S.begin i).dv.finish i).2)
theorem Aqt(H:Ca disp){d:Nat}(hd:14<=d){D:Nat}(b:A4i disp K S)(s:F0 h D S G)(hb:HB h)(i:Int):
 Ok (Ag TT disp K d false 219 [.ptr D 0,I i] h) fun v h'=>v=I (S.finish i).2/\F0 h' D (S.finish i).1 (Bh G h h')/\Ar G h h'/\HB h':=by
 obtain⟨e,rfl⟩:∃k,d=k+1:=⟨d-1,by omega⟩;rw[Amx H (by omega)];simp only[Ah1,dr];refine(Adz (K:=K) H (by omega) b s hb i).Ap ?_;rintro _ h2 ⟨s2,c2,f⟩;unfold Mc.finish;generalize S.begin i=T at s2⊢;obtain⟨V,M,qc,qh,cs,m,ms,F,a⟩:=s2.N8;simp only[Aa,Cy a.Dc rfl];refine(A0c (K:=K) a.dev f i).Ap ?_;rintro _ p ⟨rfl,d3,c3,j⟩;obtain⟨o,g⟩:=s2.put a f d3 c3;exact .ret ⟨rfl,o.Bhk c2.next g.next s.lt,c2.grow g,j⟩
theorem A7v {D:Nat}(z:Int):∀(m i:Nat) (h:Ab),S.dv.size-i<m->F0 h D S G->HB h ->
 Ok (Jy K m (.ptr D 0) (I z) (I i) h) fun v h'=>F0 h' D S G/\Ar G h h'/\HB h':=by
 intro m;induction m with
 | zero=>intro i h hm;omega
 | succ m o=>
  intro i h hm s hb;obtain⟨V,M,qc,qh,cs,p,ms,F,a⟩:=s.N8;obtain⟨zl,y,q,b,_⟩:=a.dev.N8;have e:=Av3 (K:=K) b;have t:S.dv.size<=64:=a.dev.wf.size;simp only[I]at e;simp only[Jy,Aa,Cy a.Dc rfl,e,I,Ad];by_cases f:(i:Int)<S.dv.size
  ·simp only[f,aB,Aa,Aa0,Cy a.Dc rfl]
   rw[Az (l:=[I z,I i]) rfl];obtain⟨ms',e1,g⟩:=A07 a.map a.marks z i;unfold kp at e1;rw[e1,Au];simp only[Abg,I,Ad];rw[Cn (by omega) (by omega)];obtain⟨s2,c2,j⟩:=s.Bid a hb g;refine(o (i+1) _ (by omega) s2 j).mono ?_;rintro v h' ⟨u,c3,k⟩;exact⟨u,c2.trans c3,k⟩
  ·simp only[f,aA,Aa]
   exact .ret ⟨s,Ar.refl _,hb⟩
end Go.Ev
