import Derived.Test.YtadnemjjlacolaaGreatYa
import Derived.Test.YtadnemjjlacolaaGreatXb
import Derived.Test.YtadnemjjlacolaaGreatXa
set_option linter.all false
namespace Go.Ev
open Go.Proofs
set_option maxRecDepth 100000
variable {g:Gm}{h h':Ab}{K d m n:Nat}{G H:Nat->Prop}{ps:Nat->List Int}{q:Nat->Nat}{disp:Nat->Option FT}
def Xo(g:Gm)(z off:Int):Bool:=rtB g&&(wi z 0 (g.D*g.Z-1)&&wi off 0 (g.S-1))
theorem An3(hb:HB h)(z off:Int):Ok (Pa K (gV g) (I z) (I off) h) fun v h'=>v=.bool (Xo g z off)/\Ext h h':=by
 simp only[Pa,gV,Aa];obtain⟨y,C,i,o,_⟩:=nW h (.cells (gL g) 23);rw[C];have e:=i.hb hb;rw[Db o rfl,Ai (show(gL g).length=6 from rfl)];simp only[Ia];rw[show EV.agg (gL g)=gV g from rfl];refine(Ae1 (K:=K) g y).An ?_;rintro _ h2 ⟨rfl,f⟩;have k:=f.hb e;have t:=f.at e o;unfold Xo;cases E:rtB g with
 | false=>
  simp only[Aa,Ac,Ts,Tf,bA];exact .ret ⟨rfl,i.trans f⟩
 | true=>
  have s:=Nw E;have:=s.d0;have:=s.d1;have:=s.z0;have:=s.z1;have:=s.s0;have:=s.s1;obtain⟨F,m1⟩:=Va (a:=g.D) (b:=g.Z) (A:=8) (B:=64) (by omega) (by omega) (by omega) (by omega);simp only[Aa,Ac,bF];rw[Db t rfl,Ai (show(gL g).length=6 from rfl)];simp only[Ia];rw[show EV.agg (gL g)=gV g from rfl,Lo s,As];have j:Ext h2 (h2.new (.cells (gL g) 23)):=Av.new _ _;have u:=j.at k t;generalize h2.new (.cells (gL g) 23)=x at j u⊢;simp only[I,Ac];rw[Cj];have w1:=Ak6 (K:=K) z 0 (g.D*g.Z-1) x;simp only[I]at w1;rw[w1,As];cases wi z 0 (g.D*g.Z-1)with
  | false=>
   simp only[Aa,Ac,Ts,Tf,bA];exact .ret ⟨rfl,(i.trans f).trans j⟩
  | true=>
   simp only[Aa,Ac,Ts];rw[C8 u rfl,show(gL g)[2]? = some (I g.S)from rfl];simp only[Ia,I,Ac];rw[Cj];have w2:=Ak6 (K:=K) off 0 (g.S-1) x;simp only[I]at w2;rw[w2,As];simp only[Tf,Aa,bF];exact .ret ⟨rfl,(i.trans f).trans j⟩
structure Me where
 state:Int
 Aj:Int
 Ba:Int
 off:Int
 seq:Int
 sum:Int
def Me.cells(m:Me):List EV:=[I m.state,I m.Aj,I m.Ba,I m.off,I m.seq,I m.sum]
def meB(g:Gm)(m:Me):Bool:=Xo g m.Aj m.off&&(Xo g m.Ba m.off&&(decide (¬Bu g m.Aj=Bu g m.Ba)&&(decide (1<=m.seq)&&(decide (m.seq<=281474976710655)&&(decide (0<=m.sum)&&decide (m.sum<=4294967295))))))
def Rng(z:Int):Prop:=-9223372036854775808<=z/\z<=9223372036854775807
theorem Av6{m:Me}(hb:HB h)(hs:m.state=1)(T:Rng m.Aj)(hm:Rng m.Ba):Ok (Kz K (.agg m.cells) (gV g) h) fun v h'=>v=.bool (meB g m)/\Ext h h':=by
 simp only[Kz,gV,Aa];have A:Ext h ((h.new (.cells m.cells 47)).new (.cells (gL g) 23)):=(Av.new _ _).Ds _;have b:((h.new (.cells m.cells 47)).new (.cells (gL g) 23)).get h.next=some (.cells m.cells 47):=by
  rw[Az _ (aL _)];exact Ad _ _
 have i:((h.new (.cells m.cells 47)).new (.cells (gL g) 23)).get (h.next+1)=some (.cells (gL g) 23):=Ad _ _;rw[show(h.new (.cells m.cells 47)).next=h.next+1 from rfl];generalize (h.new (.cells m.cells 47)).new (.cells (gL g) 23)=V at A b i⊢;have f:=A.hb hb;have l0:m.cells[0]? = some (I 1):=by rw[<-hs];rfl
 have l1:m.cells[1]? = some (I m.Aj):=rfl;have L:m.cells[2]? = some (I m.Ba):=rfl;have M:m.cells[3]? = some (I m.off):=rfl;have O:m.cells[4]? = some (I m.seq):=rfl;have P:m.cells[5]? = some (I m.sum):=rfl;have B:(gL g).length=6:=rfl;have e:=f _ _ b;have k:=f _ _ i;rw[C8 b rfl,l0];simp only[Ia,I,Ac];simp only[show ¬((1:Int)=0) by decide,show ¬((1:Int)=2) by decide,aA,Aa,My,Ac,aB];simp only[Aa,Cv k,Aw,Db i rfl,Ai B,Cv e,C8 b rfl,l1,M,Ia];rw[show EV.agg (gL g)=gV g from rfl];refine Ok.bE (An3 (K:=K) (D4 f) m.Aj m.off) (fun _ _ p=>p.2) ?_;rintro _ _ h2 ⟨rfl,_⟩ _ u;have o:=u.hb f;have b:=u.at f b;have i:=u.at f i;unfold meB;cases Q:Xo g m.Aj m.off with
 | false=>
  simp only[Aa,Ac,Ng,Mu,Kb,Hm,Ge,E6,bA];exact .ret ⟨rfl,A.trans u⟩
 | true=>
 have F:rtB g=true:=by unfold Xo at Q;exact((aR _ _).mp Q).1
 have sm:=Nw F;simp only[Aa,Ac,Cv k,Aw,Db i rfl,Ai B,Cv e,C8 b rfl,L,M,Ia];rw[show EV.agg (gL g)=gV g from rfl];refine Ok.bE (An3 (K:=K) (D4 o) m.Ba m.off) (fun _ _ p=>p.2) ?_;rintro _ _ W ⟨rfl,_⟩ _ C;have t:=C.hb o;have b:=C.at o b;have i:=C.at o i;have x:=(A.trans u).trans C;simp only[bF];cases Xo g m.Ba m.off with
 | false=>
  simp only[Aa,Ac,Ng,Mu,Kb,Hm,Ge,E6,bA];exact .ret ⟨rfl,x⟩
 | true=>
 simp only[Aa,Ac,Ng,Cv k,Aw,Db i rfl,Ai B,Cv e,C8 b rfl,l1,Ia,bF];rw[show EV.agg (gL g)=gV g from rfl];refine Ok.bE (Lt sm m.Aj T _) (fun _ _ p=>p.2) ?_;rintro _ _ h4 ⟨rfl,_⟩ _ E;have y:=E.hb t;have b:=E.at t b;have i:=E.at t i;simp only[Aa,Ac,Cv k,Aw,Db i rfl,Ai B,Cv e,C8 b rfl,L,Ia];rw[show EV.agg (gL g)=gV g from rfl];refine Ok.bE (Lt sm m.Ba hm _) (fun _ _ p=>p.2) ?_;rintro _ _ X ⟨rfl,_⟩ _ J;have U:=J.hb y;have b:=J.at y b;have j:=(x.trans E).trans J;simp only[Aa,Ac,I,Mu];cases decide (¬Bu g m.Aj=Bu g m.Ba)with
 | false=>
  simp only[Aa,Ac,Kb,Hm,Ge,E6,bA];exact .ret ⟨rfl,j⟩
 | true=>
 simp only[Aa,Ac,Aw,Cv e,C8 b rfl,O,Ia,I,bF,Kb];cases decide (1<=m.seq)with
 | false=>
  simp only[Aa,Ac,Hm,Ge,E6,bA];exact .ret ⟨rfl,j⟩
 | true=>
 simp only[Aa,Ac,Aw,Cv e,C8 b rfl,O,Ia,I,bF,Hm];cases decide (m.seq<=281474976710655)with
 | false=>
  simp only[Aa,Ac,Ge,E6,bA];exact .ret ⟨rfl,j⟩
 | true=>
 simp only[Aa,Ac,Aw,Cv e,C8 b rfl,P,Ia,I,bF,Ge];cases decide (0<=m.sum)with
 | false=>
  simp only[Aa,Ac,E6,bA];exact .ret ⟨rfl,j⟩
 | true=>
 simp only[Aa,Ac,Aw,Cv e,C8 b rfl,P,Ia,I,bF,E6];exact .ret ⟨rfl,j⟩
structure Mi where
 g:Gm
 dr:Lk
 ps:Nat->List Int
 bad:Nat->Int
 a:Int
 b:Int
 u:Int
structure Axk(h:Ab)(m D p bl ql np:Nat)(q c:Nat->Nat)(S:Mi)(G H:Nat->Prop):Prop where
 Kk:Aff h m D p bl (S.g.D*S.g.Z).toNat S.g S.a S.b S.u S.bad
 Hp:Fy h p ql np q c S.g S.ps
 psz:Yc np S.g S.ps
 drv:G2 h D S.dr G
 apart:¬G m/\¬G bl/\¬G p/\¬G ql/\∀d,d<np->¬G (q d)/\¬G (c d)
 sub:(∀i,G i->H i)/\H m/\H bl/\H p/\H ql/\∀d,d<np->H (q d)/\H (c d)
structure W7(h:Ab)(m:Nat)(S:Mi)(H:Nat->Prop):Prop where
 lt:∀i,H i->i<h.next
 Qu:∃D p bl ql np q c G,Axk h m D p bl ql np q c S G H
def Mi.F0(S:Mi)(z:Int):Bool:=decide (0<=Bu S.g z)&&decide (S.bad z.toNat=1)
theorem Qn{S:Mi}(s:W7 h m S H)(hb:HB h){z:Int}(f:Rng z):
 Ok (Fp K (.ptr m 0) (I z) h) fun v h'=>v=.bool (S.F0 z)/\Ext h h':=by
 obtain⟨D,p,bl,ql,np,q,c,G,a⟩:=s.Qu;have sm:=a.psz.sm;simp only[Fp,Aa,a.Kk.Bhp];refine(Lt sm z f h).An ?_;rintro _ k ⟨rfl,b⟩;have e:=a.Kk.ext fun i o g=>b.at hb g
 unfold Mi.F0;simp only[I,Ac];rcases Ko sm z with hd|⟨d0,d1,d2,d3,d4⟩
 ·rw[hd]
  simp only[show ¬((0:Int)<=-1) by decide,aA,Aa,X6,bA];exact .ret ⟨rfl,b⟩
 ·rw[aM d0]
  simp only[Aa,e.Bvo];obtain⟨j,rfl⟩:∃j:Nat,z=j:=⟨z.toNat,by omega⟩;have hj:j<(S.g.D*S.g.Z).toNat:=by omega
  rw[Lv hj,C8 e.A21 rfl];rw[show((List.range (S.g.D*S.g.Z).toNat).map fun z=>I (S.bad z))[0+j*1]? = some (I (S.bad j)) by rw[bJ,bZ,bG,cM hj];rfl];simp only[Ia,I,Ac,X6,Aa,bF];exact .ret ⟨rfl,b⟩
variable {S:Mi}
section
section
variable{D p bl ql np:Nat}{c:Nat->Nat}(a:Axk h m D p bl ql np q c S G H)(hb:HB h)
include a hb
theorem Axk.lts:m<h.next/\bl<h.next/\p<h.next/\ql<h.next/\∀d,d<np->q d<h.next/\c d<h.next:=
 ⟨hb _ _ a.Kk.Kk,hb _ _ a.Kk.A21,hb _ _ a.Hp.Hp,hb _ _ a.Hp.row,fun d hd=>⟨hb _ _ (a.Hp.que d hd),hb _ _ (a.Hp.chan d hd)⟩⟩
theorem Axk.Bfy {dr:Lk}(d:G2 h' D dr (Bg G h h'))(b:Av G h h'):Axk h' m D p bl ql np q c { S with dr:=dr } (Bg G h h') (Bg H h h'):=by
 obtain⟨l1,v,x,A,k⟩:=a.lts hb;obtain⟨o,t,n3,n4,j⟩:=a.apart;have e:∀{i},¬G i->i<h.next->¬Bg G h h' i:=fun y l z=>by
  rcases z with z|z
  ·exact y z
  ·omega
 refine⟨⟨b.at hb a.Kk.Kk o,b.at hb a.Kk.A21 t⟩,?_,a.psz,d,⟨e o l1,e t v,e n3 x,e n4 A,fun d hd=>⟨e (j d hd).1 (k d hd).1,e (j d hd).2 (k d hd).2⟩⟩,?_⟩
 ·exact⟨a.Hp.pos,b.at hb a.Hp.Hp n3,b.at hb a.Hp.row n4,fun d hd=>b.at hb (a.Hp.que d hd) (j d hd).1,fun d hd=>b.at hb (a.Hp.chan d hd) (j d hd).2,a.Hp.inj⟩
 ·obtain⟨s1,s2,B,C,E,u⟩:=a.sub
  refine⟨fun i f=>?_,.inl s2,.inl B,.inl C,.inl E,fun d hd=>⟨.inl (u d hd).1,.inl (u d hd).2⟩⟩;rcases f with f|f
  ·exact .inl (s1 i f)
  ·exact .inr f
theorem Axk.Ave(P:Fy h' p ql np q c S.g ps)(Z:Yc np S.g ps)(b:Av (Azs np c) h h'):Axk h' m D p bl ql np q c { S with ps:=ps } G H/\Av H h h':=by
 have e:∀i,G i->¬Azs np c i:=by
  rintro i f ⟨d,hd,rfl⟩;exact(a.apart.2.2.2.2 d hd).2 f
 refine⟨⟨⟨b.at hb a.Kk.Kk (a.Hp.Bse a.Kk.Kk trivial),b.at hb a.Kk.A21 (a.Hp.Bse a.Kk.A21 trivial)⟩,P,Z,a.drv.chg b e,a.apart,a.sub⟩,b.mono ?_⟩;rintro i ⟨d,hd,rfl⟩;exact(a.sub.2.2.2.2.2 d hd).2
end
theorem W7.ext(s:W7 h m S H)(hb:HB h)(x:Ext h h'):W7 h' m S H:=by
 obtain⟨D,p,bl,ql,np,q,c,G,a⟩:=s.Qu;have g:∀i o,h.get i=some o->h'.get i=some o:=fun i o g=>x.at hb g
 exact⟨fun i b=>aK (s.lt i b) x.next,D,p,bl,ql,np,q,c,G,a.Kk.ext g,a.Hp.ext g,a.psz,a.drv.ext x,a.apart,a.sub⟩
end
theorem W7.mono{b:Nat->Prop}(s:W7 h m S H)(f:∀i,H i->b i)(l:∀i,b i->i<h.next):W7 h m S b:=by
 obtain⟨D,p,bl,ql,np,q,c,G,a⟩:=s.Qu;exact⟨l,D,p,bl,ql,np,q,c,G,a.Kk,a.Hp,a.psz,a.drv,a.apart,⟨fun i e=>f _ (a.sub.1 i e),f _ a.sub.2.1,f _ a.sub.2.2.1,f _ a.sub.2.2.2.1,f _ a.sub.2.2.2.2.1,fun d hd=>⟨f _ (a.sub.2.2.2.2.2 d hd).1,f _ (a.sub.2.2.2.2.2 d hd).2⟩⟩⟩
noncomputable def Mi.leave(S:Mi)(z u:Int):Mi × Int:=
 if z = -1\/S.F0 z=true\/u=S.g.S then(S,0)else
 if u=0 then({ S with ps:=(Abk S.g S.g.D.toNat S.ps z).2 },(Abk S.g S.g.D.toNat S.ps z).1)else
 ({ S with dr:=(S.dr.finish z).1 },(S.dr.finish z).2)
theorem Ars(A:Bj disp)(U:10000<K)(hd:16<=d)(C:Bbg disp K S.dr)(s:W7 h m S H)(hb:HB h){z:Int}(O:Rng z)(u:Int):
 Ok (Ae TT disp K d false 193 [.ptr m 0,I z,I u] h) fun v h'=>v=I (S.leave z u).2/\W7 h' m (S.leave z u).1 (Bg H h h')/\Av H h h'/\HB h':=by
 obtain⟨e,rfl⟩:∃k,d=k+1:=⟨d-1,by omega⟩;rw[Aov A (by omega)];have same:∀j,Ext h j->(z = -1\/S.F0 z=true\/u=S.g.S)->Ok (some (.int .i64 0,j)) fun v h'=>v=I (S.leave z u).2/\W7 h' m (S.leave z u).1 (Bg H h h')/\Av H h h'/\HB h':=fun j x J=>by
  unfold Mi.leave;rw[aG J];obtain⟨_,D,p,bl,ql,np,q,c,G,a⟩:=s.ext hb x;refine .ret ⟨rfl,⟨Bg.lt s.lt x.next,D,p,bl,ql,np,q,c,G,⟨a.Kk,a.Hp,a.psz,a.drv,a.apart,⟨fun i b=>.inl (a.sub.1 i b),.inl a.sub.2.1,.inl a.sub.2.2.1,.inl a.sub.2.2.2.1,.inl a.sub.2.2.2.2.1,fun d hd=>⟨.inl (a.sub.2.2.2.2.2 d hd).1,.inl (a.sub.2.2.2.2.2 d hd).2⟩⟩⟩⟩,Ext.to x,x.hb hb⟩
 simp only[Aih,I,Ac];by_cases j:z = -1
 ·rw[aM j]
  simp only[Aa,Ac,Ns,Jo];exact same h (Av.refl _) (.inl j)
 ·rw[aP j]
  simp only[Aa];refine(Qn (K:=K) s hb O).An ?_;rintro _ h2 ⟨rfl,o⟩;have f:=o.hb hb;have s2:=s.ext hb o;obtain⟨L,D,p,bl,ql,np,q,c,G,a⟩:=s2;have e1:Fm (.ptr m (1+2)) h2=fun k=>k (I S.g.S):=by
   funext k;rw[C8 a.Kk.Kk rfl];rfl
  cases E:S.F0 z with
  | true=>
   simp only[Aa,Ac,Ns,Jo];exact same h2 o (.inr (.inl E))
  | false=>
   simp only[Aa,Ac,Ns];rw[e1];simp only[I,Ac];by_cases hu:u=S.g.S
   ·rw[aM hu]
    simp only[Aa,Ac,Jo];exact same h2 o (.inr (.inr hu))
   ·rw[aP hu]
    have J:¬(z = -1\/S.F0 z=true\/u=S.g.S):=by
     rintro(y|y|y)
     ·exact j y
     ·rw[E]at y;cases y
     ·exact hu y
    unfold Mi.leave;rw[aF J];simp only[Aa,Ac,Jo];by_cases h0:u=0
    ·rw[aM h0,aG h0]
     simp only[Aa,a.Kk.Hp];refine(Bjd (K:=K) A a.Hp f a.psz (by omega) (d:=e) (by omega) z O).An ?_;rintro _ F ⟨c3,t,rfl,P,Q⟩;obtain⟨M,cH⟩:=a.Ave f P Q c3;have B:Av H h F:=(Ext.to o).trans cH;have T:=a.psz.nd;subst T;refine .ret ⟨rfl,W7.mono (H:=H) ⟨fun i b=>aK (s.lt i b) B.next,D,p,bl,ql,_,q,c,G,M⟩ (fun _=>.inl) (Bg.lt s.lt B.next),B,t⟩
    ·rw[aP h0,aF h0]
     simp only[Aa,Aca,a.Kk.Eb];refine(Awk (K:=K) A (d:=e) (by omega) C a.drv f z).An ?_;rintro _ F ⟨rfl,d3,c3,t⟩;have M:=a.Bfy f d3 c3;have cH:Av H h2 F:=c3.mono a.sub.1;have B:Av H h F:=(Ext.to o).trans cH;refine .ret ⟨rfl,W7.mono (H:=Bg H h2 F) ⟨Bg.lt L c3.next,D,p,bl,ql,np,q,c,_,M⟩ (fun i b=>?_) (Bg.lt s.lt B.next),B,t⟩;rcases b with b|b
     ·exact .inl b
     ·exact .inr ⟨bN o.next b.1,b.2⟩
theorem Bcr(D:Nat)(g:Gm)(p bl n:Nat)(a b u e f i:Int):(((Agd D g p bl n a b u).set 265 (I e)).set 266 (I f)).set 267 (I i)=Agd D g p bl n e f i:=by
 unfold Agd;have j:([EV.ptr D 0]++gL g++Bn).length=263:=by rw[aH,Wx];rfl
 rw[eV _ _ (by omega),j];show((([EV.ptr D 0]++gL g++Bn)++[EV.ptr p 0,.slice bl 0 n n false,I e,I b,I u]).set 266 (I f)).set 267 (I i)=_;rw[eV _ _ (by omega),j];show(([EV.ptr D 0]++gL g++Bn)++[EV.ptr p 0,.slice bl 0 n n false,I e,I f,I u]).set 267 (I i)=_;rw[eV _ _ (by omega),j];rfl
theorem Axk.A8r{D p bl ql np:Nat}{c:Nat->Nat}(a:Axk h m D p bl ql np q c S G H)(hb:HB h){j t v:Int}(g:h'.get m=some (.cells (Agd D S.g p bl (S.g.D*S.g.Z).toNat j t v) 111))(x:Av (fun i=>i=m) h h'):
 Axk h' m D p bl ql np q c { S with a:=j,b:=t,u:=v } G H:=by
 have e:=a.Kk.Kk;have k:∀i o,h.get i=some o->(∀l,o≠.cells l 111)->h'.get i=some o:=fun i o f A=>x.at hb f fun y=>by
  subst y;rw[e]at f;cases f;exact A _ rfl
 refine⟨⟨g,k _ _ a.Kk.A21 (by intros;simp)⟩,⟨a.Hp.pos,k _ _ a.Hp.Hp (by intros;simp),k _ _ a.Hp.row (by intros;simp),fun d hd=>k _ _ (a.Hp.que d hd) (by intros;simp),fun d hd=>k _ _ (a.Hp.chan d hd) (by intros;simp),a.Hp.inj⟩,a.psz,a.drv.chg x fun i B y=>?_,a.apart,a.sub⟩;subst y;exact a.apart.1 B
def A0b(disp:Nat->Option FT)(K n:Nat):Prop:=∀T:Lk,T.ev.length<=n->Bbg disp K T
theorem Bbj:∀(l:List Evt) (D:Dv) (k:List Evt),(A2w l D k).ev.length<=l.length
 | [],_,_=>aE _
 | e::r,D,k=>by
  unfold A2w;split
  ·exact aE _
  ·have:=Bbj r (D.Xy e) (k++[e])
   exact Nat.le_succ_of_le this
theorem Lk.Bky(S:Lk)(i:Int):(S.begin i).ev.length<=S.ev.length:=by
 unfold Lk.begin;split
 ·exact Bbj _ _ _
 ·exact aE _
theorem Mi.Bk5(S:Mi)(z u:Int):(S.leave z u).1.dr.ev.length<=S.dr.ev.length:=by
 unfold Mi.leave;split
 ·exact aE _
 ·split
  ·exact aE _
  ·exact S.dr.Bky z
noncomputable def Mi.close(S:Mi):Mi × Int:=
 (((({ S with a:=-1,b:=-1,u:=0 }:Mi).leave S.a S.u).1.leave S.b S.u).1,if(({ S with a:=-1,b:=-1,u:=0 }:Mi).leave S.a S.u).2=0 then((({ S with a:=-1,b:=-1,u:=0 }:Mi).leave S.a S.u).1.leave S.b S.u).2 else(({ S with a:=-1,b:=-1,u:=0 }:Mi).leave S.a S.u).2)
theorem A3b(A:Bj disp)(P:10000<K)(hd:17<=d)(f:A0b disp K n)(Q:S.dr.ev.length<=n)(s:W7 h m S H)(hb:HB h)(X:Rng S.a)(C:Rng S.b):
 Ok (Ae TT disp K d false 163 [.ptr m 0] h) fun v h'=>v=I S.close.2/\W7 h' m S.close.1 (Bg H h h')/\Av H h h'/\HB h':=by
 obtain⟨e,rfl⟩:∃k,d=k+1:=⟨d-1,by omega⟩;rw[Apg A (by omega)];obtain⟨lt,D,p,bl,ql,np,q,c,G,a⟩:=s;have ml:=A4p D S.g p bl (S.g.D*S.g.Z).toNat S.a S.b S.u;simp only[Ah3,Aa,a.Kk.oa,a.Kk.ob,a.Kk.ou];refine Ok.A4a a.Kk.Kk hb rfl rfl (by omega) ?_;intro h1 Y c1 E
 try simp only[Aa]
 refine Ok.A4a Y E rfl rfl (by rw[bK];omega) ?_;intro h2 g2 c2 F
 try simp only[Aa]
 refine Ok.A4a g2 F rfl rfl (by rw[bK,bK];omega) ?_;intro T U c3 J;rw[show EV.int .i64 (-1)=I (-1)from rfl,show EV.int .i64 0=I 0 from rfl,Bcr]at U;have t:=(c1.trans c2).trans c3;have a3:=a.A8r hb U t;have cH:Av H h T:=t.mono fun i o=>by subst o;exact a.sub.2.1
 have s3:W7 T m { S with a:=-1,b:=-1,u:=0 } H:=⟨fun i o=>aK (lt i o) cH.next,D,p,bl,ql,np,q,c,G,a3⟩;unfold Mi.close;refine(Ars (K:=K) (S:={ S with a:=-1,b:=-1,u:=0 }) A P (d:=e) (by omega) (f S.dr Q) s3 J X S.u).An ?_;have j:=Mi.Bk5 { S with a:=-1,b:=-1,u:=0 } S.a S.u;generalize ({ S with a:=-1,b:=-1,u:=0 }:Mi).leave S.a S.u=r at j⊢;rintro _ h4 ⟨rfl,s4,c4,L⟩;refine(Ars (K:=K) A P (d:=e) (by omega) (f _ (bN j Q)) s4 L C S.u).An ?_;rintro _ M ⟨rfl,s5,V,x⟩;have B:Av H h h4:=cH.trans c4;have O:Av H h M:=B.then V fun i o hl=>by
  rcases o with y|y
  ·exact y
  ·have:=cH.next;omega
 have W:W7 M m (r.1.leave S.b S.u).1 (Bg H h M):=s5.mono (fun i o=>by
  rcases o with(y|y)|y
  ·exact .inl y
  ·have:=cH.next;have:=V.next;exact .inr ⟨by omega,by omega⟩
  ·have:=B.next;exact .inr ⟨by omega,y.2⟩) (Bg.lt lt O.next)
 simp only[I,Ac];by_cases h0:r.2=0
 ·rw[aM h0,aG h0]
  simp only[Aa,Te];exact .ret ⟨rfl,W,O,x⟩
 ·rw[aP h0,aF h0]
  simp only[Aa,Te];exact .ret ⟨rfl,W,O,x⟩
def Mi.dropped(S:Mi)(z:Int):Nat->List Int:=if Bu S.g z<0 then S.ps else upd S.ps (Bu S.g z).toNat (Sx z (S.ps (Bu S.g z).toNat))
def Mi.mark(S:Mi)(z:Int):Mi:={ S with bad:=fun i=>if i=z.toNat then 1 else S.bad i,ps:=S.dropped z }
noncomputable def Mi.Cl(S:Mi)(z:Int):Mi × Int:=
 if Bu S.g z<0 then(S,13)else if S.F0 z=true then(S,16)else
 if ¬z=S.a/\¬z=S.b then(S.mark z,0)else((S.mark z).close.1,if(S.mark z).close.2=34 then 34 else 0)
theorem Axk.Bul{D p bl ql np:Nat}{c:Nat->Nat}(a:Axk h m D p bl ql np q c S G H)(hb:HB h){b:Nat->Int}(g:h'.get bl=some (.cells ((List.range (S.g.D*S.g.Z).toNat).map fun z=>I (b z)) 3))(j:Av (fun i=>i=bl) h h'):
 Axk h' m D p bl ql np q c { S with bad:=b } G H:=by
 have e:=a.Kk.A21;have k:∀i o,h.get i=some o->(∀l,o≠.cells l 3)->h'.get i=some o:=fun i o f t=>j.at hb f fun y=>by
  subst y;rw[e]at f;cases f;exact t _ rfl
 refine⟨⟨k _ _ a.Kk.Kk (by intros;simp),g⟩,⟨a.Hp.pos,k _ _ a.Hp.Hp (by intros;simp),k _ _ a.Hp.row (by intros;simp),fun d hd=>k _ _ (a.Hp.que d hd) (by intros;simp),fun d hd=>k _ _ (a.Hp.chan d hd) (by intros;simp),a.Hp.inj⟩,a.psz,a.drv.chg j fun i u y=>?_,a.apart,a.sub⟩;subst y;exact a.apart.2.1 u
theorem Bg.up{e h2:Ab}(a:h.next<=e.next)(b:e.next<=h2.next){i:Nat}(g:Bg H e h2 i):Bg H h h2 i:=by
 rcases g with y|y
 ·exact .inl y
 ·exact .inr ⟨by omega,y.2⟩
theorem Aua(A:Bj disp)(hK:10000<K)(hd:18<=d)(C:A0b disp K n)(hn:S.dr.ev.length<=n)(s:W7 h m S H)(hb:HB h)(ha:Rng S.a)(T:Rng S.b){z:Int}(U:Rng z):
 Ok (Ae TT disp K d false 134 [.ptr m 0,I z] h) fun v h'=>v=I (S.Cl z).2/\W7 h' m (S.Cl z).1 (Bg H h h')/\Av H h h'/\HB h':=by
 obtain⟨e,rfl⟩:∃k,d=k+1:=⟨d-1,by omega⟩;rw[Ahe A (by omega)];obtain⟨lt,D,p,bl,ql,np,q,c,G,a⟩:=s;have s:W7 h m S H:=⟨lt,D,p,bl,ql,np,q,c,G,a⟩;have sm:=a.psz.sm;simp only[Aad,Aa,a.Kk.Bhp];refine(Lt sm z U h).An ?_;rintro _ h1 ⟨rfl,E⟩;have f:=E.hb hb;have s1:=s.ext hb E;unfold Mi.Cl;simp only[I,Ac];rcases Ko sm z with V|⟨d0,d1,d2,d3,d4⟩
 ·rw[V]
  simp only[show(-1:Int)<0 by decide,aB,Aa,bM];exact .ret ⟨rfl,s1.mono (fun _=>.inl) (Bg.lt lt E.next),Ext.to E,f⟩
 ·rw[aP (show ¬Bu S.g z<0 by omega),aF (show ¬Bu S.g z<0 by omega)]
  simp only[Aa];refine(Qn (K:=K) s1 f U).An ?_;rintro _ h2 ⟨rfl,P⟩;have u:=P.hb f;have x:=E.trans P;cases ah:S.F0 z with
  | true=>
   simp only[Aa,bM];exact .ret ⟨rfl,(s1.ext f P).mono (fun _=>.inl) (Bg.lt lt x.next),Ext.to x,u⟩
  | false=>
   simp only[Aa,ak,bD,Vu];obtain⟨ai,D,p,bl,ql,np,q,c,G,a⟩:=s1.ext f P;obtain⟨j,rfl⟩:∃j:Nat,z=j:=⟨z.toNat,by omega⟩;have hj:j<(S.g.D*S.g.Z).toNat:=by omega
   rw[a.Kk.Bvo,Lv hj,bJ,bZ];refine Ok.A4a a.Kk.A21 u rfl rfl (by rw[bX,eX];exact hj) ?_;intro h3 Y c3 F;have J:((List.range (S.g.D*S.g.Z).toNat).map fun z=>I (S.bad z)).set j (.int .i64 1)=(List.range (S.g.D*S.g.Z).toNat).map fun z=>I ((S.mark j).bad z):=by
    apply dY;intro i;rw[dD,bG,bG,bX,eX];by_cases o:j=i
    ·subst o
     rw[aG rfl,aG hj,cM hj];simp[Mi.mark,I]
    ·rw[aF o]
     rcases cZ i (S.g.D*S.g.Z).toNat with hl|hg
     ·rw[cM hl]
      have:¬i=j:=fun y=>o y.symm
      simp[Mi.mark,this]
     ·rw[cA (by rw[eX];exact hg)];rfl
   rw[J]at Y;have Q:=a.Bul u Y c3;have W:Av H h h3:=(Ext.to x).trans (c3.mono fun i o=>by subst o;exact a.sub.2.2.1)
   try simp only[Aa]
   rw[Q.Kk.Hp];refine(Brj (K:=K) A (by omega) Q.Hp F Q.psz (d:=e) (by omega) j U).An ?_;rintro _ h4 ⟨⟨er,rfl⟩,c4,L,P4,Z4⟩;obtain⟨a4,cH⟩:=Q.Ave F P4 Z4 c4;have a4:Axk h4 m D p bl ql np q c (S.mark j) G H:=a4;have M:Av H h h4:=W.trans cH;have s4:W7 h4 m (S.mark j) H:=⟨fun i o=>aK (lt i o) M.next,D,p,bl,ql,np,q,c,G,a4⟩
   try simp only[Aa]
   rw[a4.Kk.oa];have close:¬(¬(j:Int)=S.a/\¬(j:Int)=S.b)->Ok (Nn (Ae TT disp K e false) (Ae TT disp K e true) K (.ptr m 0) h4) fun v h'=>v=I (if ¬(j:Int)=S.a/\¬(j:Int)=S.b then(S.mark j,(0:Int))else((S.mark j).close.1,if(S.mark j).close.2=34 then 34 else 0)).2/\W7 h' m (if ¬(j:Int)=S.a/\¬(j:Int)=S.b then(S.mark j,(0:Int))else((S.mark j).close.1,if(S.mark j).close.2=34 then 34 else 0)).1 (Bg H h h')/\Av H h h'/\HB h':=by
    intro X;rw[aF X];simp only[Nn,dr];refine(A3b (K:=K) A hK (d:=e) (by omega) C (S:=S.mark j) hn s4 L ha T).An ?_;rintro _ h5 ⟨rfl,s5,c5,O⟩;have B:=M.trans c5;have s6:=s5.mono (fun i o=>Bg.up M.next c5.next o) (Bg.lt lt B.next);simp only[I,Ac];by_cases t:(S.mark j).close.2=34
    ·rw[aM t,aG t]
     simp only[Aa];exact .ret ⟨rfl,s6,B,O⟩
    ·rw[aP t,aF t]
     simp only[Aa,Vt];exact .ret ⟨rfl,s6,B,O⟩
   simp only[I,Ac]at close⊢;rw[show(S.mark (j:Int)).a=S.a from rfl];by_cases e1:(j:Int)=S.a
   ·rw[show decide (¬(j:Int)=S.a)=false from aP fun y=>y e1]
    simp only[Aa,Ac,Np];exact close fun y=>y.1 e1
   ·rw[show decide (¬(j:Int)=S.a)=true from aM e1]
    simp only[Aa,Ac];rw[a4.Kk.ob];simp only[I,Ac,Np,Aa];rw[show(S.mark (j:Int)).b=S.b from rfl];by_cases e2:(j:Int)=S.b
    ·rw[show decide (¬(j:Int)=S.b)=false from aP fun y=>y e2]
     simp only[Aa];exact close fun y=>y.2 e2
    ·rw[show decide (¬(j:Int)=S.b)=true from aM e2]
     simp only[Aa];rw[aG ⟨e1,e2⟩];exact .ret ⟨rfl,s4.mono (fun _=>.inl) (Bg.lt lt M.next),M,L⟩
def Aj8(ps:Nat->List Int)(n:Nat):Option (Int × Int × (Nat->List Int)):=
 if F7 ps n=0 then none else
 some ((ps (Ew ps (-1) n).toNat).headD 0,(ps (Ew ps (Ew ps (-1) n) n).toNat).headD 0,
  upd (upd ps (Ew ps (-1) n).toNat (ps (Ew ps (-1) n).toNat).tail) (Ew ps (Ew ps (-1) n) n).toNat (ps (Ew ps (Ew ps (-1) n) n).toNat).tail)
noncomputable def Mi.ready(S:Mi):Mi × Int:=
 if ¬S.a = -1/\S.u<S.g.S then(S,0)else
 if ¬S.dr.flush.2=0 then({ S with dr:=S.dr.flush.1 },S.dr.flush.2)else
 match Aj8 S.ps S.g.D.toNat with
 | none=>({ S with dr:=S.dr.flush.1 },40)
 | some (x,y,ps')=>({ S with dr:=S.dr.flush.1,ps:=ps',a:=x,b:=y,u:=0 },0)
theorem A29(A:Bj disp)(hK:10000<K)(hd:16<=d)(L:A0b disp K n)(hn:S.dr.ev.length<=n)(s:W7 h m S H)(hb:HB h):
 Ok (Ae TT disp K d false 147 [.ptr m 0] h) fun v h'=>v=I S.ready.2/\W7 h' m S.ready.1 (Bg H h h')/\Av H h h'/\HB h':=by
 obtain⟨e,rfl⟩:∃k,d=k+1:=⟨d-1,by omega⟩;rw[Aoc A (by omega)];obtain⟨lt,D,p,bl,ql,np,q,c,G,a⟩:=s;have s:W7 h m S H:=⟨lt,D,p,bl,ql,np,q,c,G,a⟩;have W:=a.psz.nd;subst W;have es:Fm (.ptr m (1+2)) h=fun k=>k (I S.g.S):=by
  funext k;rw[C8 a.Kk.Kk rfl];rfl
 have two:¬(¬S.a = -1/\S.u<S.g.S)->Ok (Tk (Ae TT disp K e false) (Ae TT disp K e true) K (.ptr m 0) h) fun v h'=>v=I S.ready.2/\W7 h' m S.ready.1 (Bg H h h')/\Av H h h'/\HB h':=by
  intro X;unfold Mi.ready;rw[aF X];simp only[Tk,Aa,a.Kk.Eb];refine(Ay4 (K:=K) A (by omega) (d:=e) (by omega) (L _ hn) a.drv hb).An ?_;rintro _ h2 ⟨rfl,d2,c2,j⟩;have C:=a.Bfy hb d2 c2;have o:Av H h h2:=c2.mono a.sub.1;have E:=Bg.lt lt o.next
  simp only[I,Ac];by_cases O:S.dr.flush.2=0
  ·rw[aP (show ¬¬S.dr.flush.2=0 from fun y=>y O),aF (show ¬¬S.dr.flush.2=0 from fun y=>y O)]
   simp only[Aa,Acn,C.Kk.Hp];refine(Bsn (K:=K) C.Hp j C.psz (by omega)).An ?_;rintro _ h3 ⟨c3,F,hh⟩;rcases hh with⟨p0,rfl,Y⟩|⟨x,y,vx,vy,r,t,hp,f1,f2,hx,hy,aq,e1,e2,rfl,Y,Z3⟩
   ·obtain⟨P,J⟩:=C.Ave j Y C.psz c3
    have Q:Av H h h3:=o.grow J;have hg:Aj8 S.ps S.g.D.toNat=none:=by unfold Aj8;rw[aG p0]
    rw[hg];simp only[Aa,I,Ac];simp only[show ¬((15:Int)=0) by decide,aN,aB,Aa];refine .ret ⟨rfl,W7.mono (H:=Bg H h h2) ⟨fun i f=>aK (E i f) c3.next,D,p,bl,ql,_,q,c,_,P⟩ (fun i f=>Bg.le c3.next f) (Bg.lt lt Q.next),Q,F⟩
   ·obtain⟨P,J⟩:=C.Ave j Y Z3 c3
    have Q:Av H h h3:=o.grow J;have hg:Aj8 S.ps S.g.D.toNat=some (vx,vy,upd (upd S.ps x r) y t):=by
     unfold Aj8;have e1:S.ps x=vx::r:=e1;have e2:S.ps y=vy::t:=e2;have f1:Ew S.ps (-1) S.g.D.toNat=x:=f1;have f2:Ew S.ps x S.g.D.toNat=y:=f2;rw[aF hp,f1,f2];simp only[aZ,e1,e2,List.headD_cons,List.tail_cons]
    rw[hg];simp only[Aa,I,Ac];simp only[aD,aA,Aa,Ab9];have ml:=A4p D S.g p bl (S.g.D*S.g.Z).toNat S.a S.b S.u;refine Ok.A4a P.Kk.Kk F rfl rfl (by show 265<(Agd D S.g p bl (S.g.D*S.g.Z).toNat S.a S.b S.u).length;omega) ?_;intro h4 g4 c4 ae
    try simp only[Aa]
    refine Ok.A4a g4 ae rfl rfl (by rw[bK];show 266<(Agd D S.g p bl (S.g.D*S.g.Z).toNat S.a S.b S.u).length;omega) ?_;intro h5 g5 c5 af
    try simp only[Aa]
    refine Ok.A4a g5 af rfl rfl (by rw[bK,bK];show 267<(Agd D S.g p bl (S.g.D*S.g.Z).toNat S.a S.b S.u).length;omega) ?_;intro h6 U c6 ag;have U:h6.get m=some (.cells ((((Agd D S.g p bl (S.g.D*S.g.Z).toNat S.a S.b S.u).set 265 (I vx)).set 266 (I vy)).set 267 (I 0)) 111):=U;rw[Bcr]at U;have B:=(c4.trans c5).trans c6;have a6:=P.A8r F U B;have M:Av H h h6:=Q.then (B.mono (T:=fun i=>i=m) fun i f=>f) fun i f _=>by subst f;exact a.sub.2.1
    exact .ret ⟨rfl,W7.mono (H:=Bg H h h2) ⟨fun i f=>aK (E i f) (bN c3.next B.next),D,p,bl,ql,_,q,c,_,a6⟩ (fun i f=>Bg.le (bN c3.next B.next) f) (Bg.lt lt M.next),M,ag⟩
  ·rw[aM O,aG O]
   simp only[Aa];exact .ret ⟨rfl,⟨E,D,p,bl,ql,_,q,c,_,C⟩,o,j⟩
 have done:¬S.a = -1/\S.u<S.g.S->Ok (some (.int .i64 0,h)) fun v h'=>v=I S.ready.2/\W7 h' m S.ready.1 (Bg H h h')/\Av H h h'/\HB h':=fun hy=>by
  unfold Mi.ready;rw[aG hy];exact .ret ⟨rfl,s.mono (fun _=>.inl) (Bg.lt lt (aE _)),Av.refl _,hb⟩
 simp only[Ahg,Aa,a.Kk.oa,I,Ac];by_cases V:S.a = -1
 ·rw[aP (show ¬¬S.a = -1 from fun y=>y V)]
  simp only[Aa,Nx,Ac];exact two fun y=>y.1 V
 ·rw[aM V]
  simp only[Aa,Ac,a.Kk.ou,es,I];by_cases h2:S.u<S.g.S
  ·rw[aM h2]
   simp only[Nx,Aa];exact done ⟨V,h2⟩
  ·rw[aP h2]
   simp only[Nx,Aa];exact two fun y=>h2 y.2
end Go.Ev
