import Derived.Test.YtokpnommcenoaaaGreatYa
import Derived.Test.YtokpnommcenoaaaGreatXb
import Derived.Test.YtokpnommcenoaaaGreatXa
set_option linter.all false
namespace Go.Ev
open Go.Proofs
set_option maxRecDepth 100000
variable {g:Gm}{h h':Ab}{K d m n:Nat}{G H:Nat->Prop}{ps:Nat->List Int}{q:Nat->Nat}{disp:Nat->Option FT}
def X1(g:Gm)(z off:Int):Bool:=rtB g&&(wi z 0 (g.D*g.Z-1)&&wi off 0 (g.S-1))
theorem Abc(hb:HB h)(z off:Int):Ok (Mv K (gV g) (I z) (I off) h) fun v h'=>v=.bool (X1 g z off)/\Ext h h':=by
 simp only[Mv,gV,Aa];obtain⟨x,y,i,o,_⟩:=nW h (.cells (gL g) 23);rw[y];have e:=i.hb hb;rw[Cz o rfl,Aj (show(gL g).length=6 from rfl)];simp only[Gu];rw[show EV.agg (gL g)=gV g from rfl];refine(Vr (K:=K) g x).Am ?_;rintro _ h2 ⟨rfl,f⟩;have k:=f.hb e;have g2:=f.at e o;unfold X1;cases C:rtB g with
 | false=>
  simp only[Aa,Ac,Pz,Qr,ak];exact .ret ⟨rfl,i.trans f⟩
 | true=>
  have s:=Uy C;have:=s.d0;have:=s.d1;have:=s.z0;have:=s.z1;have:=s.s0;have:=s.s1;obtain⟨E,F⟩:=Oi (a:=g.D) (b:=g.Z) (A:=8) (B:=64) (by omega) (by omega) (by omega) (by omega);simp only[Aa,Ac,bD];rw[Cz g2 rfl,Aj (show(gL g).length=6 from rfl)];simp only[Gu];rw[show EV.agg (gL g)=gV g from rfl,N2 s,Aq];have j:Ext h2 (h2.new (.cells (gL g) 23)):=As.new _ _;have t:=j.at k g2;generalize h2.new (.cells (gL g) 23)=u at j t⊢;simp only[I,Ac];rw[Ci];have w1:=Yz (K:=K) z 0 (g.D*g.Z-1) u;simp only[I]at w1;rw[w1,Aq];cases wi z 0 (g.D*g.Z-1)with
  | false=>
   simp only[Aa,Ac,Pz,Qr,ak];exact .ret ⟨rfl,(i.trans f).trans j⟩
  | true=>
   simp only[Aa,Ac,Pz];rw[C0 t rfl,show(gL g)[2]? = some (I g.S)from rfl];simp only[Gu,I,Ac];rw[Ci];have w2:=Yz (K:=K) off 0 (g.S-1) u;simp only[I]at w2;rw[w2,Aq];simp only[Qr,Aa,bD];exact .ret ⟨rfl,(i.trans f).trans j⟩
structure Me where
 state:Int
 An:Int
 Bv:Int
 off:Int
 seq:Int
 sum:Int
def Me.cells(m:Me):List EV:=[I m.state,I m.An,I m.Bv,I m.off,I m.seq,I m.sum]
def meB(g:Gm)(m:Me):Bool:=X1 g m.An m.off&&(X1 g m.Bv m.off&&(decide (¬Ex g m.An=Ex g m.Bv)&&(decide (1<=m.seq)&&(decide (m.seq<=281474976710655)&&(decide (0<=m.sum)&&decide (m.sum<=4294967295))))))
def Rs(z:Int):Prop:=-9223372036854775808<=z/\z<=9223372036854775807
theorem Asu{m:Me}(hb:HB h)(hs:m.state=1)(Q:Rs m.An)(hm:Rs m.Bv):Ok (I6 K (.agg m.cells) (gV g) h) fun v h'=>v=.bool (meB g m)/\Ext h h':=by
 simp only[I6,gV,Aa];have y:Ext h ((h.new (.cells m.cells 53)).new (.cells (gL g) 23)):=(As.new _ _).Da _;have g2:((h.new (.cells m.cells 53)).new (.cells (gL g) 23)).get h.next=some (.cells m.cells 53):=by
  rw[Az _ (aR _)];exact Ad _ _
 have f:((h.new (.cells m.cells 53)).new (.cells (gL g) 23)).get (h.next+1)=some (.cells (gL g) 23):=Ad _ _;rw[show(h.new (.cells m.cells 53)).next=h.next+1 from rfl];generalize (h.new (.cells m.cells 53)).new (.cells (gL g) 23)=U at y g2 f⊢;have e:=y.hb hb;have l0:m.cells[0]? = some (I 1):=by rw[<-hs];rfl
 have l1:m.cells[1]? = some (I m.An):=rfl;have J:m.cells[2]? = some (I m.Bv):=rfl;have L:m.cells[3]? = some (I m.off):=rfl;have M:m.cells[4]? = some (I m.seq):=rfl;have O:m.cells[5]? = some (I m.sum):=rfl;have A:(gL g).length=6:=rfl;have b:=e _ _ g2;have j:=e _ _ f;rw[C0 g2 rfl,l0];simp only[Gu,I,Ac];simp only[show ¬((1:Int)=0) by decide,show ¬((1:Int)=2) by decide,aA,Aa,K2,Ac,aB];simp only[Aa,Cg j,Ar,Cz f rfl,Aj A,Cg b,C0 g2 rfl,l1,L,Gu];rw[show EV.agg (gL g)=gV g from rfl];refine Ok.bE (Abc (K:=K) (Db e) m.An m.off) (fun _ _ p=>p.2) ?_;rintro _ _ h2 ⟨rfl,_⟩ _ t;have k:=t.hb e;have g2:=t.at e g2;have f:=t.at e f;unfold meB;cases P:X1 g m.An m.off with
 | false=>
  simp only[Aa,Ac,K0,Kv,Ic,F4,Fa,El,ak];exact .ret ⟨rfl,y.trans t⟩
 | true=>
 have E:rtB g=true:=by unfold X1 at P;exact((bL _ _).mp P).1
 have sm:=Uy E;simp only[Aa,Ac,Cg j,Ar,Cz f rfl,Aj A,Cg b,C0 g2 rfl,J,L,Gu];rw[show EV.agg (gL g)=gV g from rfl];refine Ok.bE (Abc (K:=K) (Db k) m.Bv m.off) (fun _ _ p=>p.2) ?_;rintro _ _ V ⟨rfl,_⟩ _ B;have o:=B.hb k;have g2:=B.at k g2;have f:=B.at k f;have u:=(y.trans t).trans B;simp only[bD];cases X1 g m.Bv m.off with
 | false=>
  simp only[Aa,Ac,K0,Kv,Ic,F4,Fa,El,ak];exact .ret ⟨rfl,u⟩
 | true=>
 simp only[Aa,Ac,K0,Cg j,Ar,Cz f rfl,Aj A,Cg b,C0 g2 rfl,l1,Gu,bD];rw[show EV.agg (gL g)=gV g from rfl];refine Ok.bE (Js sm m.An Q _) (fun _ _ p=>p.2) ?_;rintro _ _ h4 ⟨rfl,_⟩ _ C;have x:=C.hb o;have g2:=C.at o g2;have f:=C.at o f;simp only[Aa,Ac,Cg j,Ar,Cz f rfl,Aj A,Cg b,C0 g2 rfl,J,Gu];rw[show EV.agg (gL g)=gV g from rfl];refine Ok.bE (Js sm m.Bv hm _) (fun _ _ p=>p.2) ?_;rintro _ _ W ⟨rfl,_⟩ _ F;have T:=F.hb x;have g2:=F.at x g2;have i:=(u.trans C).trans F;simp only[Aa,Ac,I,Kv];cases decide (¬Ex g m.An=Ex g m.Bv)with
 | false=>
  simp only[Aa,Ac,Ic,F4,Fa,El,ak];exact .ret ⟨rfl,i⟩
 | true=>
 simp only[Aa,Ac,Ar,Cg b,C0 g2 rfl,M,Gu,I,bD,Ic];cases decide (1<=m.seq)with
 | false=>
  simp only[Aa,Ac,F4,Fa,El,ak];exact .ret ⟨rfl,i⟩
 | true=>
 simp only[Aa,Ac,Ar,Cg b,C0 g2 rfl,M,Gu,I,bD,F4];cases decide (m.seq<=281474976710655)with
 | false=>
  simp only[Aa,Ac,Fa,El,ak];exact .ret ⟨rfl,i⟩
 | true=>
 simp only[Aa,Ac,Ar,Cg b,C0 g2 rfl,O,Gu,I,bD,Fa];cases decide (0<=m.sum)with
 | false=>
  simp only[Aa,Ac,El,ak];exact .ret ⟨rfl,i⟩
 | true=>
 simp only[Aa,Ac,Ar,Cg b,C0 g2 rfl,O,Gu,I,bD,El];exact .ret ⟨rfl,i⟩
structure Mi where
 g:Gm
 dr:K4
 ps:Nat->List Int
 bad:Nat->Int
 a:Int
 b:Int
 u:Int
structure Aun(h:Ab)(m D p bl ql np:Nat)(q c:Nat->Nat)(S:Mi)(G H:Nat->Prop):Prop where
 Hi:Abj h m D p bl (S.g.D*S.g.Z).toNat S.g S.a S.b S.u S.bad
 Gh:E3 h p ql np q c S.g S.ps
 psz:Sz np S.g S.ps
 drv:Ff h D S.dr G
 apart:¬G m/\¬G bl/\¬G p/\¬G ql/\∀d,d<np->¬G (q d)/\¬G (c d)
 sub:(∀i,G i->H i)/\H m/\H bl/\H p/\H ql/\∀d,d<np->H (q d)/\H (c d)
structure Sq(h:Ab)(m:Nat)(S:Mi)(H:Nat->Prop):Prop where
 lt:∀i,H i->i<h.next
 Mw:∃D p bl ql np q c G,Aun h m D p bl ql np q c S G H
def Mi.Jt(S:Mi)(z:Int):Bool:=decide (0<=Ex S.g z)&&decide (S.bad z.toNat=1)
theorem Je{S:Mi}(s:Sq h m S H)(hb:HB h){z:Int}(f:Rs z):
 Ok (Dw K (.ptr m 0) (I z) h) fun v h'=>v=.bool (S.Jt z)/\Ext h h':=by
 obtain⟨D,p,bl,ql,np,q,c,G,a⟩:=s.Mw;have sm:=a.psz.sm;simp only[Dw,Aa,a.Hi.Bdk];refine(Js sm z f h).Am ?_;rintro _ k ⟨rfl,b⟩;have e:=a.Hi.ext fun i o g=>b.at hb g
 unfold Mi.Jt;simp only[I,Ac];rcases Afi sm z with hd|⟨d0,d1,d2,d3,d4⟩
 ·rw[hd]
  simp only[show ¬((0:Int)<=-1) by decide,aA,Aa,To,ak];exact .ret ⟨rfl,b⟩
 ·rw[aJ d0]
  simp only[Aa,e.Bt8];obtain⟨j,rfl⟩:∃j:Nat,z=j:=⟨z.toNat,by omega⟩;have hj:j<(S.g.D*S.g.Z).toNat:=by omega
  rw[Od hj,C0 e.Az4 rfl];rw[show((List.range (S.g.D*S.g.Z).toNat).map fun z=>I (S.bad z))[0+j*1]? = some (I (S.bad j)) by rw[bF,bk,bA,cQ hj];rfl];simp only[Gu,I,Ac,To,Aa,bD];exact .ret ⟨rfl,b⟩
variable {S:Mi}
section
section
variable{D p bl ql np:Nat}{c:Nat->Nat}(a:Aun h m D p bl ql np q c S G H)(hb:HB h)
include a hb
theorem Aun.lts:m<h.next/\bl<h.next/\p<h.next/\ql<h.next/\∀d,d<np->q d<h.next/\c d<h.next:=
 ⟨hb _ _ a.Hi.Hi,hb _ _ a.Hi.Az4,hb _ _ a.Gh.Gh,hb _ _ a.Gh.row,fun d hd=>⟨hb _ _ (a.Gh.que d hd),hb _ _ (a.Gh.chan d hd)⟩⟩
theorem Aun.Bco {dr:K4}(d:Ff h' D dr (Bi G h h'))(b:As G h h'):Aun h' m D p bl ql np q c { S with dr:=dr } (Bi G h h') (Bi H h h'):=by
 obtain⟨l1,v,x,A,k⟩:=a.lts hb;obtain⟨o,t,n3,n4,j⟩:=a.apart;have e:∀{i},¬G i->i<h.next->¬Bi G h h' i:=fun y l z=>by
  rcases z with z|z
  ·exact y z
  ·omega
 refine⟨⟨b.at hb a.Hi.Hi o,b.at hb a.Hi.Az4 t⟩,?_,a.psz,d,⟨e o l1,e t v,e n3 x,e n4 A,fun d hd=>⟨e (j d hd).1 (k d hd).1,e (j d hd).2 (k d hd).2⟩⟩,?_⟩
 ·exact⟨a.Gh.pos,b.at hb a.Gh.Gh n3,b.at hb a.Gh.row n4,fun d hd=>b.at hb (a.Gh.que d hd) (j d hd).1,fun d hd=>b.at hb (a.Gh.chan d hd) (j d hd).2,a.Gh.inj⟩
 ·obtain⟨s1,s2,B,C,E,u⟩:=a.sub
  refine⟨fun i f=>?_,.inl s2,.inl B,.inl C,.inl E,fun d hd=>⟨.inl (u d hd).1,.inl (u d hd).2⟩⟩;rcases f with f|f
  ·exact .inl (s1 i f)
  ·exact .inr f
theorem Aun.Arr(P:E3 h' p ql np q c S.g ps)(Z:Sz np S.g ps)(b:As (Awt np c) h h'):Aun h' m D p bl ql np q c { S with ps:=ps } G H/\As H h h':=by
 have e:∀i,G i->¬Awt np c i:=by
  rintro i f ⟨d,hd,rfl⟩;exact(a.apart.2.2.2.2 d hd).2 f
 refine⟨⟨⟨b.at hb a.Hi.Hi (a.Gh.Brt a.Hi.Hi trivial),b.at hb a.Hi.Az4 (a.Gh.Brt a.Hi.Az4 trivial)⟩,P,Z,a.drv.chg b e,a.apart,a.sub⟩,b.mono ?_⟩;rintro i ⟨d,hd,rfl⟩;exact(a.sub.2.2.2.2.2 d hd).2
end
theorem Sq.ext(s:Sq h m S H)(hb:HB h)(x:Ext h h'):Sq h' m S H:=by
 obtain⟨D,p,bl,ql,np,q,c,G,a⟩:=s.Mw;have g:∀i o,h.get i=some o->h'.get i=some o:=fun i o g=>x.at hb g
 exact⟨fun i b=>aN (s.lt i b) x.next,D,p,bl,ql,np,q,c,G,a.Hi.ext g,a.Gh.ext g,a.psz,a.drv.ext x,a.apart,a.sub⟩
end
theorem Sq.mono{b:Nat->Prop}(s:Sq h m S H)(f:∀i,H i->b i)(l:∀i,b i->i<h.next):Sq h m S b:=by
 obtain⟨D,p,bl,ql,np,q,c,G,a⟩:=s.Mw;exact⟨l,D,p,bl,ql,np,q,c,G,a.Hi,a.Gh,a.psz,a.drv,a.apart,⟨fun i e=>f _ (a.sub.1 i e),f _ a.sub.2.1,f _ a.sub.2.2.1,f _ a.sub.2.2.2.1,f _ a.sub.2.2.2.2.1,fun d hd=>⟨f _ (a.sub.2.2.2.2.2 d hd).1,f _ (a.sub.2.2.2.2.2 d hd).2⟩⟩⟩
noncomputable def Mi.leave(S:Mi)(z u:Int):Mi × Int:=
 if z = -1\/S.Jt z=true\/u=S.g.S then(S,0)else
 if u=0 then({ S with ps:=(As2 S.g S.g.D.toNat S.ps z).2 },(As2 S.g S.g.D.toNat S.ps z).1)else
 ({ S with dr:=(S.dr.finish z).1 },(S.dr.finish z).2)
theorem Anq(A:By disp)(T:10000<K)(hd:16<=d)(C:A6x disp K S.dr)(s:Sq h m S H)(hb:HB h){z:Int}(M:Rs z)(u:Int):
 Ok (Ag TT disp K d false 266 [.ptr m 0,I z,I u] h) fun v h'=>v=I (S.leave z u).2/\Sq h' m (S.leave z u).1 (Bi H h h')/\As H h h'/\HB h':=by
 obtain⟨e,rfl⟩:∃k,d=k+1:=⟨d-1,by omega⟩;rw[Ak1 A (by omega)];have same:∀j,Ext h j->(z = -1\/S.Jt z=true\/u=S.g.S)->Ok (some (.int .i64 0,j)) fun v h'=>v=I (S.leave z u).2/\Sq h' m (S.leave z u).1 (Bi H h h')/\As H h h'/\HB h':=fun j x J=>by
  unfold Mi.leave;rw[aQ J];obtain⟨_,D,p,bl,ql,np,q,c,G,a⟩:=s.ext hb x;refine .ret ⟨rfl,⟨Bi.lt s.lt x.next,D,p,bl,ql,np,q,c,G,⟨a.Hi,a.Gh,a.psz,a.drv,a.apart,⟨fun i b=>.inl (a.sub.1 i b),.inl a.sub.2.1,.inl a.sub.2.2.1,.inl a.sub.2.2.2.1,.inl a.sub.2.2.2.2.1,fun d hd=>⟨.inl (a.sub.2.2.2.2.2 d hd).1,.inl (a.sub.2.2.2.2.2 d hd).2⟩⟩⟩⟩,Ext.to x,x.hb hb⟩
 simp only[Aez,I,Ac];by_cases j:z = -1
 ·rw[aJ j]
  simp only[Aa,Ac,K5,Hr];exact same h (As.refl _) (.inl j)
 ·rw[aI j]
  simp only[Aa];refine(Je (K:=K) s hb M).Am ?_;rintro _ h2 ⟨rfl,o⟩;have f:=o.hb hb;have s2:=s.ext hb o;obtain⟨L,D,p,bl,ql,np,q,c,G,a⟩:=s2;have e1:Fw (.ptr m (1+2)) h2=fun k=>k (I S.g.S):=by
   funext k;rw[C0 a.Hi.Hi rfl];rfl
  cases E:S.Jt z with
  | true=>
   simp only[Aa,Ac,K5,Hr];exact same h2 o (.inr (.inl E))
  | false=>
   simp only[Aa,Ac,K5];rw[e1];simp only[I,Ac];by_cases hu:u=S.g.S
   ·rw[aJ hu]
    simp only[Aa,Ac,Hr];exact same h2 o (.inr (.inr hu))
   ·rw[aI hu]
    have J:¬(z = -1\/S.Jt z=true\/u=S.g.S):=by
     rintro(y|y|y)
     ·exact j y
     ·rw[E]at y;cases y
     ·exact hu y
    unfold Mi.leave;rw[aM J];simp only[Aa,Ac,Hr];by_cases h0:u=0
    ·rw[aJ h0,aQ h0]
     simp only[Aa,a.Hi.Gh];refine(Bgn (K:=K) A a.Gh f a.psz (by omega) (d:=e) (by omega) z M).Am ?_;rintro _ F ⟨c3,t,rfl,O,P⟩;obtain⟨a3,cH⟩:=a.Arr f O P c3;have B:As H h F:=(Ext.to o).trans cH;have Q:=a.psz.nd;subst Q;refine .ret ⟨rfl,Sq.mono (H:=H) ⟨fun i b=>aN (s.lt i b) B.next,D,p,bl,ql,_,q,c,G,a3⟩ (fun _=>.inl) (Bi.lt s.lt B.next),B,t⟩
    ·rw[aI h0,aM h0]
     simp only[Aa,Y5,a.Hi.Dc];refine(Asz (K:=K) A (d:=e) (by omega) C a.drv f z).Am ?_;rintro _ F ⟨rfl,d3,c3,t⟩;have a3:=a.Bco f d3 c3;have cH:As H h2 F:=c3.mono a.sub.1;have B:As H h F:=(Ext.to o).trans cH;refine .ret ⟨rfl,Sq.mono (H:=Bi H h2 F) ⟨Bi.lt L c3.next,D,p,bl,ql,np,q,c,_,a3⟩ (fun i b=>?_) (Bi.lt s.lt B.next),B,t⟩;rcases b with b|b
     ·exact .inl b
     ·exact .inr ⟨bQ o.next b.1,b.2⟩
theorem A94(D:Nat)(g:Gm)(p bl n:Nat)(a b u e f i:Int):(((Acl D g p bl n a b u).set 265 (I e)).set 266 (I f)).set 267 (I i)=Acl D g p bl n e f i:=by
 unfold Acl;have j:([EV.ptr D 0]++gL g++Be).length=263:=by rw[aG,P7];rfl
 rw[eK _ _ (by omega),j];show((([EV.ptr D 0]++gL g++Be)++[EV.ptr p 0,.slice bl 0 n n false,I e,I b,I u]).set 266 (I f)).set 267 (I i)=_;rw[eK _ _ (by omega),j];show(([EV.ptr D 0]++gL g++Be)++[EV.ptr p 0,.slice bl 0 n n false,I e,I f,I u]).set 267 (I i)=_;rw[eK _ _ (by omega),j];rfl
theorem Aun.A6t{D p bl ql np:Nat}{c:Nat->Nat}(a:Aun h m D p bl ql np q c S G H)(hb:HB h){j t v:Int}(g:h'.get m=some (.cells (Acl D S.g p bl (S.g.D*S.g.Z).toNat j t v) 132))(x:As (fun i=>i=m) h h'):
 Aun h' m D p bl ql np q c { S with a:=j,b:=t,u:=v } G H:=by
 have e:=a.Hi.Hi;have k:∀i o,h.get i=some o->(∀l,o≠.cells l 132)->h'.get i=some o:=fun i o f A=>x.at hb f fun y=>by
  subst y;rw[e]at f;cases f;exact A _ rfl
 refine⟨⟨g,k _ _ a.Hi.Az4 (by intros;simp)⟩,⟨a.Gh.pos,k _ _ a.Gh.Gh (by intros;simp),k _ _ a.Gh.row (by intros;simp),fun d hd=>k _ _ (a.Gh.que d hd) (by intros;simp),fun d hd=>k _ _ (a.Gh.chan d hd) (by intros;simp),a.Gh.inj⟩,a.psz,a.drv.chg x fun i B y=>?_,a.apart,a.sub⟩;subst y;exact a.apart.1 B
def Ave(disp:Nat->Option FT)(K n:Nat):Prop:=∀T:K4,T.ev.length<=n->A6x disp K T
theorem Bbm:∀(l:List Lo) (D:Dv) (k:List Lo),(Azt l D k).ev.length<=l.length
 | [],_,_=>aD _
 | e::r,D,k=>by
  unfold Azt;split
  ·exact aD _
  ·have:=Bbm r (D.Tm e) (k++[e])
   exact Nat.le_succ_of_le this
theorem K4.Bkj(S:K4)(i:Int):(S.begin i).ev.length<=S.ev.length:=by
 unfold K4.begin;split
 ·exact Bbm _ _ _
 ·exact aD _
theorem Mi.Bhh(S:Mi)(z u:Int):(S.leave z u).1.dr.ev.length<=S.dr.ev.length:=by
 unfold Mi.leave;split
 ·exact aD _
 ·split
  ·exact aD _
  ·exact S.dr.Bkj z
noncomputable def Mi.close(S:Mi):Mi × Int:=
 (((({ S with a:=-1,b:=-1,u:=0 }:Mi).leave S.a S.u).1.leave S.b S.u).1,if(({ S with a:=-1,b:=-1,u:=0 }:Mi).leave S.a S.u).2=0 then((({ S with a:=-1,b:=-1,u:=0 }:Mi).leave S.a S.u).1.leave S.b S.u).2 else(({ S with a:=-1,b:=-1,u:=0 }:Mi).leave S.a S.u).2)
theorem Azw(A:By disp)(P:10000<K)(hd:17<=d)(f:Ave disp K n)(Q:S.dr.ev.length<=n)(s:Sq h m S H)(hb:HB h)(W:Rs S.a)(C:Rs S.b):
 Ok (Ag TT disp K d false 240 [.ptr m 0] h) fun v h'=>v=I S.close.2/\Sq h' m S.close.1 (Bi H h h')/\As H h h'/\HB h':=by
 obtain⟨e,rfl⟩:∃k,d=k+1:=⟨d-1,by omega⟩;rw[Ald A (by omega)];obtain⟨lt,D,p,bl,ql,np,q,c,G,a⟩:=s;have ml:=A2a D S.g p bl (S.g.D*S.g.Z).toNat S.a S.b S.u;simp only[Aey,Aa,a.Hi.oa,a.Hi.ob,a.Hi.ou];refine Ok.A20 a.Hi.Hi hb rfl rfl (by omega) ?_;intro h1 X c1 E
 try simp only[Aa]
 refine Ok.A20 X E rfl rfl (by rw[bV];omega) ?_;intro h2 g2 c2 F
 try simp only[Aa]
 refine Ok.A20 g2 F rfl rfl (by rw[bV,bV];omega) ?_;intro T U c3 J;rw[show EV.int .i64 (-1)=I (-1)from rfl,show EV.int .i64 0=I 0 from rfl,A94]at U;have t:=(c1.trans c2).trans c3;have a3:=a.A6t hb U t;have cH:As H h T:=t.mono fun i o=>by subst o;exact a.sub.2.1
 have Y:Sq T m { S with a:=-1,b:=-1,u:=0 } H:=⟨fun i o=>aN (lt i o) cH.next,D,p,bl,ql,np,q,c,G,a3⟩;unfold Mi.close;refine(Anq (K:=K) (S:={ S with a:=-1,b:=-1,u:=0 }) A P (d:=e) (by omega) (f S.dr Q) Y J W S.u).Am ?_;have j:=Mi.Bhh { S with a:=-1,b:=-1,u:=0 } S.a S.u;generalize ({ S with a:=-1,b:=-1,u:=0 }:Mi).leave S.a S.u=r at j⊢;rintro _ h4 ⟨rfl,s4,c4,L⟩;refine(Anq (K:=K) A P (d:=e) (by omega) (f _ (bQ j Q)) s4 L C S.u).Am ?_;rintro _ M ⟨rfl,s5,c5,x⟩;have B:As H h h4:=cH.trans c4;have O:As H h M:=B.then c5 fun i o hl=>by
  rcases o with y|y
  ·exact y
  ·have:=cH.next;omega
 have V:Sq M m (r.1.leave S.b S.u).1 (Bi H h M):=s5.mono (fun i o=>by
  rcases o with(y|y)|y
  ·exact .inl y
  ·have:=cH.next;have:=c5.next;exact .inr ⟨by omega,by omega⟩
  ·have:=B.next;exact .inr ⟨by omega,y.2⟩) (Bi.lt lt O.next)
 simp only[I,Ac];by_cases h0:r.2=0
 ·rw[aJ h0,aQ h0]
  simp only[Aa,Qc];exact .ret ⟨rfl,V,O,x⟩
 ·rw[aI h0,aM h0]
  simp only[Aa,Qc];exact .ret ⟨rfl,V,O,x⟩
def Mi.dropped(S:Mi)(z:Int):Nat->List Int:=if Ex S.g z<0 then S.ps else upd S.ps (Ex S.g z).toNat (Ts z (S.ps (Ex S.g z).toNat))
def Mi.mark(S:Mi)(z:Int):Mi:={ S with bad:=fun i=>if i=z.toNat then 1 else S.bad i,ps:=S.dropped z }
noncomputable def Mi.Bx(S:Mi)(z:Int):Mi × Int:=
 if Ex S.g z<0 then(S,13)else if S.Jt z=true then(S,16)else
 if ¬z=S.a/\¬z=S.b then(S.mark z,0)else((S.mark z).close.1,if(S.mark z).close.2=34 then 34 else 0)
theorem Aun.Bsc{D p bl ql np:Nat}{c:Nat->Nat}(a:Aun h m D p bl ql np q c S G H)(hb:HB h){b:Nat->Int}(g:h'.get bl=some (.cells ((List.range (S.g.D*S.g.Z).toNat).map fun z=>I (b z)) 3))(j:As (fun i=>i=bl) h h'):
 Aun h' m D p bl ql np q c { S with bad:=b } G H:=by
 have e:=a.Hi.Az4;have k:∀i o,h.get i=some o->(∀l,o≠.cells l 3)->h'.get i=some o:=fun i o f t=>j.at hb f fun y=>by
  subst y;rw[e]at f;cases f;exact t _ rfl
 refine⟨⟨k _ _ a.Hi.Hi (by intros;simp),g⟩,⟨a.Gh.pos,k _ _ a.Gh.Gh (by intros;simp),k _ _ a.Gh.row (by intros;simp),fun d hd=>k _ _ (a.Gh.que d hd) (by intros;simp),fun d hd=>k _ _ (a.Gh.chan d hd) (by intros;simp),a.Gh.inj⟩,a.psz,a.drv.chg j fun i u y=>?_,a.apart,a.sub⟩;subst y;exact a.apart.2.1 u
theorem Bi.up{e h2:Ab}(a:h.next<=e.next)(b:e.next<=h2.next){i:Nat}(g:Bi H e h2 i):Bi H h h2 i:=by
 rcases g with y|y
 ·exact .inl y
 ·exact .inr ⟨by omega,y.2⟩
theorem Ao5(A:By disp)(hK:10000<K)(hd:18<=d)(C:Ave disp K n)(hn:S.dr.ev.length<=n)(s:Sq h m S H)(hb:HB h)(ha:Rs S.a)(Q:Rs S.b){z:Int}(T:Rs z):
 Ok (Ag TT disp K d false 197 [.ptr m 0,I z] h) fun v h'=>v=I (S.Bx z).2/\Sq h' m (S.Bx z).1 (Bi H h h')/\As H h h'/\HB h':=by
 obtain⟨e,rfl⟩:∃k,d=k+1:=⟨d-1,by omega⟩;rw[Ac6 A (by omega)];obtain⟨lt,D,p,bl,ql,np,q,c,G,a⟩:=s;have s:Sq h m S H:=⟨lt,D,p,bl,ql,np,q,c,G,a⟩;have sm:=a.psz.sm;simp only[Vt,Aa,a.Hi.Bdk];refine(Js sm z T h).Am ?_;rintro _ h1 ⟨rfl,E⟩;have f:=E.hb hb;have s1:=s.ext hb E;unfold Mi.Bx;simp only[I,Ac];rcases Afi sm z with U|⟨d0,d1,d2,d3,d4⟩
 ·rw[U]
  simp only[show(-1:Int)<0 by decide,aB,Aa,bI];exact .ret ⟨rfl,s1.mono (fun _=>.inl) (Bi.lt lt E.next),Ext.to E,f⟩
 ·rw[aI (show ¬Ex S.g z<0 by omega),aM (show ¬Ex S.g z<0 by omega)]
  simp only[Aa];refine(Je (K:=K) s1 f T).Am ?_;rintro _ h2 ⟨rfl,P⟩;have u:=P.hb f;have x:=E.trans P;cases af:S.Jt z with
  | true=>
   simp only[Aa,bI];exact .ret ⟨rfl,(s1.ext f P).mono (fun _=>.inl) (Bi.lt lt x.next),Ext.to x,u⟩
  | false=>
   simp only[Aa,aW,aY,Si];obtain⟨ag,D,p,bl,ql,np,q,c,G,a⟩:=s1.ext f P;obtain⟨j,rfl⟩:∃j:Nat,z=j:=⟨z.toNat,by omega⟩;have hj:j<(S.g.D*S.g.Z).toNat:=by omega
   rw[a.Hi.Bt8,Od hj,bF,bk];refine Ok.A20 a.Hi.Az4 u rfl rfl (by rw[bZ,eP];exact hj) ?_;intro h3 X c3 F;have J:((List.range (S.g.D*S.g.Z).toNat).map fun z=>I (S.bad z)).set j (.int .i64 1)=(List.range (S.g.D*S.g.Z).toNat).map fun z=>I ((S.mark j).bad z):=by
    apply eE;intro i;rw[List.getElem?_set,bA,bA,bZ,eP];by_cases o:j=i
    ·subst o
     rw[aQ rfl,aQ hj,cQ hj];simp[Mi.mark,I]
    ·rw[aM o]
     rcases dL i (S.g.D*S.g.Z).toNat with hl|hg
     ·rw[cQ hl]
      have:¬i=j:=fun y=>o y.symm
      simp[Mi.mark,this]
     ·rw[cF (by rw[eP];exact hg)];rfl
   rw[J]at X;have a3:=a.Bsc u X c3;have V:As H h h3:=(Ext.to x).trans (c3.mono fun i o=>by subst o;exact a.sub.2.2.1)
   try simp only[Aa]
   rw[a3.Hi.Gh];refine(Bpt (K:=K) A (by omega) a3.Gh F a3.psz (d:=e) (by omega) j T).Am ?_;rintro _ h4 ⟨⟨er,rfl⟩,c4,L,P4,Z4⟩;obtain⟨a4,cH⟩:=a3.Arr F P4 Z4 c4;have a4:Aun h4 m D p bl ql np q c (S.mark j) G H:=a4;have M:As H h h4:=V.trans cH;have Y:Sq h4 m (S.mark j) H:=⟨fun i o=>aN (lt i o) M.next,D,p,bl,ql,np,q,c,G,a4⟩
   try simp only[Aa]
   rw[a4.Hi.oa];have close:¬(¬(j:Int)=S.a/\¬(j:Int)=S.b)->Ok (K9 (Ag TT disp K e false) (Ag TT disp K e true) K (.ptr m 0) h4) fun v h'=>v=I (if ¬(j:Int)=S.a/\¬(j:Int)=S.b then(S.mark j,(0:Int))else((S.mark j).close.1,if(S.mark j).close.2=34 then 34 else 0)).2/\Sq h' m (if ¬(j:Int)=S.a/\¬(j:Int)=S.b then(S.mark j,(0:Int))else((S.mark j).close.1,if(S.mark j).close.2=34 then 34 else 0)).1 (Bi H h h')/\As H h h'/\HB h':=by
    intro W;rw[aM W];simp only[K9,dr];refine(Azw (K:=K) A hK (d:=e) (by omega) C (S:=S.mark j) hn Y L ha Q).Am ?_;rintro _ h5 ⟨rfl,s5,c5,O⟩;have B:=M.trans c5;have s6:=s5.mono (fun i o=>Bi.up M.next c5.next o) (Bi.lt lt B.next);simp only[I,Ac];by_cases t:(S.mark j).close.2=34
    ·rw[aJ t,aQ t]
     simp only[Aa];exact .ret ⟨rfl,s6,B,O⟩
    ·rw[aI t,aM t]
     simp only[Aa,Ry];exact .ret ⟨rfl,s6,B,O⟩
   simp only[I,Ac]at close⊢;rw[show(S.mark (j:Int)).a=S.a from rfl];by_cases e1:(j:Int)=S.a
   ·rw[show decide (¬(j:Int)=S.a)=false from aI fun y=>y e1]
    simp only[Aa,Ac,Lc];exact close fun y=>y.1 e1
   ·rw[show decide (¬(j:Int)=S.a)=true from aJ e1]
    simp only[Aa,Ac];rw[a4.Hi.ob];simp only[I,Ac,Lc,Aa];rw[show(S.mark (j:Int)).b=S.b from rfl];by_cases e2:(j:Int)=S.b
    ·rw[show decide (¬(j:Int)=S.b)=false from aI fun y=>y e2]
     simp only[Aa];exact close fun y=>y.2 e2
    ·rw[show decide (¬(j:Int)=S.b)=true from aJ e2]
     simp only[Aa];rw[aQ ⟨e1,e2⟩];exact .ret ⟨rfl,Y.mono (fun _=>.inl) (Bi.lt lt M.next),M,L⟩
def Au9(ps:Nat->List Int)(n:Nat):Option (Int × Int × (Nat->List Int)):=
 if Aa2 ps n=0 then none else
 some ((ps (Fe ps (-1) n).toNat).headD 0,(ps (Fe ps (Fe ps (-1) n) n).toNat).headD 0,
  upd (upd ps (Fe ps (-1) n).toNat (ps (Fe ps (-1) n).toNat).tail) (Fe ps (Fe ps (-1) n) n).toNat (ps (Fe ps (Fe ps (-1) n) n).toNat).tail)
noncomputable def Mi.ready(S:Mi):Mi × Int:=
 if ¬S.a = -1/\S.u<S.g.S then(S,0)else
 if ¬S.dr.flush.2=0 then({ S with dr:=S.dr.flush.1 },S.dr.flush.2)else
 match Au9 S.ps S.g.D.toNat with
 | none=>({ S with dr:=S.dr.flush.1 },40)
 | some (x,y,e)=>({ S with dr:=S.dr.flush.1,ps:=e,a:=x,b:=y,u:=0 },0)
theorem Azu(A:By disp)(hK:10000<K)(hd:16<=d)(L:Ave disp K n)(hn:S.dr.ev.length<=n)(s:Sq h m S H)(hb:HB h):
 Ok (Ag TT disp K d false 232 [.ptr m 0] h) fun v h'=>v=I S.ready.2/\Sq h' m S.ready.1 (Bi H h h')/\As H h h'/\HB h':=by
 obtain⟨e,rfl⟩:∃k,d=k+1:=⟨d-1,by omega⟩;rw[Akb A (by omega)];obtain⟨lt,D,p,bl,ql,np,q,c,G,a⟩:=s;have s:Sq h m S H:=⟨lt,D,p,bl,ql,np,q,c,G,a⟩;have V:=a.psz.nd;subst V;have es:Fw (.ptr m (1+2)) h=fun k=>k (I S.g.S):=by
  funext k;rw[C0 a.Hi.Hi rfl];rfl
 have two:¬(¬S.a = -1/\S.u<S.g.S)->Ok (Qb (Ag TT disp K e false) (Ag TT disp K e true) K (.ptr m 0) h) fun v h'=>v=I S.ready.2/\Sq h' m S.ready.1 (Bi H h h')/\As H h h'/\HB h':=by
  intro W;unfold Mi.ready;rw[aM W];simp only[Qb,Aa,a.Hi.Dc];refine(Aw7 (K:=K) A (by omega) (d:=e) (by omega) (L _ hn) a.drv hb).Am ?_;rintro _ h2 ⟨rfl,d2,c2,j⟩;have C:=a.Bco hb d2 c2;have o:As H h h2:=c2.mono a.sub.1;have E:=Bi.lt lt o.next
  simp only[I,Ac];by_cases O:S.dr.flush.2=0
  ·rw[aI (show ¬¬S.dr.flush.2=0 from fun y=>y O),aM (show ¬¬S.dr.flush.2=0 from fun y=>y O)]
   simp only[Aa,Yh,C.Hi.Gh];refine(Bro (K:=K) C.Gh j C.psz (by omega)).Am ?_;rintro _ h3 ⟨c3,F,hh⟩;rcases hh with⟨p0,rfl,X⟩|⟨x,y,Y,vy,r,t,hp,f1,f2,hx,hy,aq,e1,e2,rfl,X,Z3⟩
   ·obtain⟨a3,J⟩:=C.Arr j X C.psz c3
    have P:As H h h3:=o.grow J;have hg:Au9 S.ps S.g.D.toNat=none:=by unfold Au9;rw[aQ p0]
    rw[hg];simp only[Aa,I,Ac];simp only[show ¬((15:Int)=0) by decide,aE,aB,Aa];refine .ret ⟨rfl,Sq.mono (H:=Bi H h h2) ⟨fun i f=>aN (E i f) c3.next,D,p,bl,ql,_,q,c,_,a3⟩ (fun i f=>Bi.le c3.next f) (Bi.lt lt P.next),P,F⟩
   ·obtain⟨a3,J⟩:=C.Arr j X Z3 c3
    have P:As H h h3:=o.grow J;have hg:Au9 S.ps S.g.D.toNat=some (Y,vy,upd (upd S.ps x r) y t):=by
     unfold Au9;have e1:S.ps x=Y::r:=e1;have e2:S.ps y=vy::t:=e2;have f1:Fe S.ps (-1) S.g.D.toNat=x:=f1;have f2:Fe S.ps x S.g.D.toNat=y:=f2;rw[aM hp,f1,f2];simp only[bG,e1,e2,List.headD_cons,List.tail_cons]
    rw[hg];simp only[Aa,I,Ac];simp only[aC,aA,Aa,X0];have ml:=A2a D S.g p bl (S.g.D*S.g.Z).toNat S.a S.b S.u;refine Ok.A20 a3.Hi.Hi F rfl rfl (by show 265<(Acl D S.g p bl (S.g.D*S.g.Z).toNat S.a S.b S.u).length;omega) ?_;intro h4 g4 c4 ad
    try simp only[Aa]
    refine Ok.A20 g4 ad rfl rfl (by rw[bV];show 266<(Acl D S.g p bl (S.g.D*S.g.Z).toNat S.a S.b S.u).length;omega) ?_;intro h5 g5 c5 ae
    try simp only[Aa]
    refine Ok.A20 g5 ae rfl rfl (by rw[bV,bV];show 267<(Acl D S.g p bl (S.g.D*S.g.Z).toNat S.a S.b S.u).length;omega) ?_;intro h6 Q c6 af;have Q:h6.get m=some (.cells ((((Acl D S.g p bl (S.g.D*S.g.Z).toNat S.a S.b S.u).set 265 (I Y)).set 266 (I vy)).set 267 (I 0)) 132):=Q;rw[A94]at Q;have B:=(c4.trans c5).trans c6;have a6:=a3.A6t F Q B;have M:As H h h6:=P.then (B.mono (T:=fun i=>i=m) fun i f=>f) fun i f _=>by subst f;exact a.sub.2.1
    exact .ret ⟨rfl,Sq.mono (H:=Bi H h h2) ⟨fun i f=>aN (E i f) (bQ c3.next B.next),D,p,bl,ql,_,q,c,_,a6⟩ (fun i f=>Bi.le (bQ c3.next B.next) f) (Bi.lt lt M.next),M,af⟩
  ·rw[aJ O,aQ O]
   simp only[Aa];exact .ret ⟨rfl,⟨E,D,p,bl,ql,_,q,c,_,C⟩,o,j⟩
 have done:¬S.a = -1/\S.u<S.g.S->Ok (some (.int .i64 0,h)) fun v h'=>v=I S.ready.2/\Sq h' m S.ready.1 (Bi H h h')/\As H h h'/\HB h':=fun hy=>by
  unfold Mi.ready;rw[aQ hy];exact .ret ⟨rfl,s.mono (fun _=>.inl) (Bi.lt lt (aD _)),As.refl _,hb⟩
 simp only[Adg,Aa,a.Hi.oa,I,Ac];by_cases U:S.a = -1
 ·rw[aI (show ¬¬S.a = -1 from fun y=>y U)]
  simp only[Aa,K6,Ac];exact two fun y=>y.1 U
 ·rw[aJ U]
  simp only[Aa,Ac,a.Hi.ou,es,I];by_cases h2:S.u<S.g.S
  ·rw[aJ h2]
   simp only[K6,Aa];exact done ⟨U,h2⟩
  ·rw[aI h2]
   simp only[K6,Aa];exact two fun y=>h2 y.2
end Go.Ev
