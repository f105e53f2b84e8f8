import Derived.Test.YtokpnommcenoaaaGreatYa
import Derived.Test.YtokpnommcenoaaaGreatXb
import Derived.Test.YtokpnommcenoaaaGreatXa
set_option linter.all false
namespace Go.Ev
open Go.Proofs
set_option maxRecDepth 100000
variable {g:Gm}{h h':Ab}{K d m n:Nat}{G H:Nat->Prop}{ps:Nat->List Int}{q:Nat->Nat}{disp:Nat->Option FT}
def Ae6(g:Gm)(z off:Int):Bool:=rtB g&&(wi z 0 (g.D*g.Z-1)&&wi off 0 (g.S-1))
theorem Aio(hb:HB h)(z off:Int):Ok (Mp K (gV g) (I z) (I off) h) fun v h'=>v=.bool (Ae6 g z off)/\Ext h h':=by
 simp only[Mp,gV,Aa];have e:Ext h (h.new (.cells (gL g) 23)):=Ar.new _ _;have k:(h.new (.cells (gL g) 23)).get h.next=some (.cells (gL g) 23):=Ac _ _
 generalize h.new (.cells (gL g) 23)=y at e k⊢;have f:=e.hb hb;rw[C8 k rfl,Am (show(gL g).length=6 from rfl)];simp only[G8];rw[show EV.agg (gL g)=gV g from rfl];refine(Z7 (K:=K) g y).Ap ?_;rintro _ h2 ⟨rfl,i⟩;have o:=i.hb f;have t:=i.at f k;unfold Ae6;cases C:rtB g with
 | false=>
  simp only[Aa,Ad,Pt,Pm,aX];exact .ret ⟨rfl,e.trans i⟩
 | true=>
  have s:=Zf C;have:=s.d0;have:=s.d1;have:=s.z0;have:=s.z1;have:=s.s0;have:=s.s1;obtain⟨E,F⟩:=N1 (a:=g.D) (b:=g.Z) (A:=8) (B:=64) (by omega) (by omega) (by omega) (by omega);simp only[Aa,Ad,aZ];rw[C8 t rfl,Am (show(gL g).length=6 from rfl)];simp only[G8];rw[show EV.agg (gL g)=gV g from rfl,Lh s,Au];have j:Ext h2 (h2.new (.cells (gL g) 23)):=Ar.new _ _;have u:=j.at o t;generalize h2.new (.cells (gL g) 23)=x at j u⊢;simp only[I,Ad];rw[Cn (by omega) (by omega)];have w1:=Wn (K:=K) z 0 (g.D*g.Z-1) x;simp only[I]at w1;rw[w1,Au];cases wi z 0 (g.D*g.Z-1)with
  | false=>
   simp only[Aa,Ad,Pt,Pm,aX];exact .ret ⟨rfl,(e.trans i).trans j⟩
  | true=>
   simp only[Aa,Ad,Pt];rw[Cy u rfl,show(gL g)[2]? = some (I g.S)from rfl];simp only[G8,I,Ad];rw[Cn (by omega) (by omega)];have w2:=Wn (K:=K) off 0 (g.S-1) x;simp only[I]at w2;rw[w2,Au];simp only[Pm,Aa,aZ];exact .ret ⟨rfl,(e.trans i).trans j⟩
structure Me where
 state:Int
 An:Int
 Br:Int
 off:Int
 seq:Int
 sum:Int
def Me.cells(m:Me):List EV:=[I m.state,I m.An,I m.Br,I m.off,I m.seq,I m.sum]
def meB(g:Gm)(m:Me):Bool:=Ae6 g m.An m.off&&(Ae6 g m.Br m.off&&(decide (¬Ej g m.An=Ej g m.Br)&&(decide (1<=m.seq)&&(decide (m.seq<=281474976710655)&&(decide (0<=m.sum)&&decide (m.sum<=4294967295))))))
def Tk(z:Int):Prop:=-9223372036854775808<=z/\z<=9223372036854775807
theorem Aqy{m:Me}(hb:HB h)(hs:m.state=1)(T:Tk m.An)(hm:Tk m.Br):Ok (Jd K (.agg m.cells) (gV g) h) fun v h'=>v=.bool (meB g m)/\Ext h h':=by
 simp only[Jd,gV,Aa];have A:Ext h ((h.new (.cells m.cells 53)).new (.cells (gL g) 23)):=(Ar.new _ _).Di _;have b:((h.new (.cells m.cells 53)).new (.cells (gL g) 23)).get h.next=some (.cells m.cells 53):=by
  rw[Ay _ (aE _)];exact Ac _ _
 have i:((h.new (.cells m.cells 53)).new (.cells (gL g) 23)).get (h.next+1)=some (.cells (gL g) 23):=Ac _ _;rw[show(h.new (.cells m.cells 53)).next=h.next+1 from rfl];generalize (h.new (.cells m.cells 53)).new (.cells (gL g) 23)=V at A b i⊢;have f:=A.hb hb;have l0:m.cells[0]? = some (I 1):=by rw[<-hs];rfl
 have l1:m.cells[1]? = some (I m.An):=rfl;have L:m.cells[2]? = some (I m.Br):=rfl;have M:m.cells[3]? = some (I m.off):=rfl;have O:m.cells[4]? = some (I m.seq):=rfl;have P:m.cells[5]? = some (I m.sum):=rfl;have B:(gL g).length=6:=rfl;have e:=f _ _ b;have k:=f _ _ i;rw[Cy b rfl,l0];simp only[G8,I,Ad];simp only[show ¬((1:Int)=0) by decide,show ¬((1:Int)=2) by decide,aA,Aa,Kz,Ad,aB];simp only[Aa,Ah k,Aw,C8 i rfl,Am B,Ah e,Cy b rfl,l1,M,G8];rw[show EV.agg (gL g)=gV g from rfl];refine Ok.Ds (by kernel_rfl) (by kernel_rfl) (Aio (K:=K) (Du f) m.An m.off) (fun _ _ p=>p.2) ?_;rintro _ _ h2 ⟨rfl,_⟩ _ u;have o:=u.hb f;have b:=u.at f b;have i:=u.at f i;unfold meB;cases Q:Ae6 g m.An m.off with
 | false=>
  simp only[Aa,Ad,Kq,Ko,Ij,Gu,Fq,Ep,aX];exact .ret ⟨rfl,A.trans u⟩
 | true=>
 have F:rtB g=true:=by unfold Ae6 at Q;exact((bI _ _).mp Q).1
 have sm:=Zf F;simp only[Aa,Ad,Ah k,Aw,C8 i rfl,Am B,Ah e,Cy b rfl,L,M,G8];rw[show EV.agg (gL g)=gV g from rfl];refine Ok.Ds (by kernel_rfl) (by kernel_rfl) (Aio (K:=K) (Du o) m.Br m.off) (fun _ _ p=>p.2) ?_;rintro _ _ W ⟨rfl,_⟩ _ C;have t:=C.hb o;have b:=C.at o b;have i:=C.at o i;have x:=(A.trans u).trans C;simp only[aZ];cases Ae6 g m.Br m.off with
 | false=>
  simp only[Aa,Ad,Kq,Ko,Ij,Gu,Fq,Ep,aX];exact .ret ⟨rfl,x⟩
 | true=>
 simp only[Aa,Ad,Kq,Ah k,Aw,C8 i rfl,Am B,Ah e,Cy b rfl,l1,G8,aZ];rw[show EV.agg (gL g)=gV g from rfl];refine Ok.Ds (by kernel_rfl) (by kernel_rfl) (Jv sm m.An T _) (fun _ _ p=>p.2) ?_;rintro _ _ h4 ⟨rfl,_⟩ _ E;have y:=E.hb t;have b:=E.at t b;have i:=E.at t i;simp only[Aa,Ad,Ah k,Aw,C8 i rfl,Am B,Ah e,Cy b rfl,L,G8];rw[show EV.agg (gL g)=gV g from rfl];refine Ok.Ds (by kernel_rfl) (by kernel_rfl) (Jv sm m.Br hm _) (fun _ _ p=>p.2) ?_;rintro _ _ X ⟨rfl,_⟩ _ J;have U:=J.hb y;have b:=J.at y b;have j:=(x.trans E).trans J;simp only[Aa,Ad,I,Ko];cases decide (¬Ej g m.An=Ej g m.Br)with
 | false=>
  simp only[Aa,Ad,Ij,Gu,Fq,Ep,aX];exact .ret ⟨rfl,j⟩
 | true=>
 simp only[Aa,Ad,Aw,Ah e,Cy b rfl,O,G8,I,aZ,Ij];cases decide (1<=m.seq)with
 | false=>
  simp only[Aa,Ad,Gu,Fq,Ep,aX];exact .ret ⟨rfl,j⟩
 | true=>
 simp only[Aa,Ad,Aw,Ah e,Cy b rfl,O,G8,I,aZ,Gu];cases decide (m.seq<=281474976710655)with
 | false=>
  simp only[Aa,Ad,Fq,Ep,aX];exact .ret ⟨rfl,j⟩
 | true=>
 simp only[Aa,Ad,Aw,Ah e,Cy b rfl,P,G8,I,aZ,Fq];cases decide (0<=m.sum)with
 | false=>
  simp only[Aa,Ad,Ep,aX];exact .ret ⟨rfl,j⟩
 | true=>
 simp only[Aa,Ad,Aw,Ah e,Cy b rfl,P,G8,I,aZ,Ep];exact .ret ⟨rfl,j⟩
structure Mi where
 g:Gm
 dr:Mc
 ps:Nat->List Int
 bad:Nat->Int
 a:Int
 b:Int
 u:Int
structure Arj(h:Ab)(m D p bl ql np:Nat)(q c:Nat->Nat)(S:Mi)(G H:Nat->Prop):Prop where
 Iv:Aaz h m D p bl (S.g.D*S.g.Z).toNat S.g S.a S.b S.u S.bad
 Gw:Fh h p ql np q c S.g S.ps
 psz:R9 np S.g S.ps
 drv:F0 h D S.dr G
 apart:¬G m/\¬G bl/\¬G p/\¬G ql/\∀d,d<np->¬G (q d)/\¬G (c d)
 sub:(∀i,G i->H i)/\H m/\H bl/\H p/\H ql/\∀d,d<np->H (q d)/\H (c d)
structure Rw(h:Ab)(m:Nat)(S:Mi)(H:Nat->Prop):Prop where
 lt:∀i,H i->i<h.next
 N8:∃D p bl ql np q c G,Arj h m D p bl ql np q c S G H
def Mi.I7(S:Mi)(z:Int):Bool:=decide (0<=Ej S.g z)&&decide (S.bad z.toNat=1)
theorem Hy{S:Mi}(s:Rw h m S H)(hb:HB h){z:Int}(f:Tk z):
 Ok (C9 K (.ptr m 0) (I z) h) fun v h'=>v=.bool (S.I7 z)/\Ext h h':=by
 obtain⟨D,p,bl,ql,np,q,c,G,a⟩:=s.N8;have sm:=a.psz.sm;simp only[C9,Aa,a.Iv.A9f];refine(Jv sm z f h).Ap ?_;rintro _ k ⟨rfl,b⟩;have e:=a.Iv.ext fun i o g=>b.at hb g
 unfold Mi.I7;simp only[I,Ad];rcases Ag6 sm z with hd|⟨d0,d1,d2,d3,d4⟩
 ·rw[hd]
  simp only[show ¬((0:Int)<=-1) by decide,aA,Aa,Sw,aX];exact .ret ⟨rfl,b⟩
 ·rw[aP d0]
  simp only[Aa,e.Bpl];obtain⟨j,rfl⟩:∃j:Nat,z=j:=⟨z.toNat,by omega⟩;have hj:j<(S.g.D*S.g.Z).toNat:=by omega
  rw[Mg hj,Cy e.Axd rfl];rw[show((List.range (S.g.D*S.g.Z).toNat).map fun z=>I (S.bad z))[0+j*1]? = some (I (S.bad j)) by rw[bC,bc,av,cF hj];rfl];simp only[G8,I,Ad,Sw,Aa,aZ];exact .ret ⟨rfl,b⟩
variable {S:Mi}
section
section
variable{D p bl ql np:Nat}{c:Nat->Nat}(a:Arj h m D p bl ql np q c S G H)(hb:HB h)
include a hb
theorem Arj.lts:m<h.next/\bl<h.next/\p<h.next/\ql<h.next/\∀d,d<np->q d<h.next/\c d<h.next:=
 ⟨hb _ _ a.Iv.Iv,hb _ _ a.Iv.Axd,hb _ _ a.Gw.Gw,hb _ _ a.Gw.row,fun d hd=>⟨hb _ _ (a.Gw.que d hd),hb _ _ (a.Gw.chan d hd)⟩⟩
theorem Arj.A9v {dr:Mc}(d:F0 h' D dr (Bh G h h'))(b:Ar G h h'):Arj h' m D p bl ql np q c { S with dr:=dr } (Bh G h h') (Bh H h h'):=by
 obtain⟨l1,v,x,A,k⟩:=a.lts hb;obtain⟨o,t,n3,n4,j⟩:=a.apart;have e:∀{i},¬G i->i<h.next->¬Bh G h h' i:=fun y l z=>by
  rcases z with z|z
  ·exact y z
  ·omega
 refine⟨⟨b.at hb a.Iv.Iv o,b.at hb a.Iv.Axd t⟩,?_,a.psz,d,⟨e o l1,e t v,e n3 x,e n4 A,fun d hd=>⟨e (j d hd).1 (k d hd).1,e (j d hd).2 (k d hd).2⟩⟩,?_⟩
 ·exact⟨a.Gw.pos,b.at hb a.Gw.Gw n3,b.at hb a.Gw.row n4,fun d hd=>b.at hb (a.Gw.que d hd) (j d hd).1,fun d hd=>b.at hb (a.Gw.chan d hd) (j d hd).2,a.Gw.inj⟩
 ·obtain⟨s1,s2,B,C,E,u⟩:=a.sub
  refine⟨fun i f=>?_,.inl s2,.inl B,.inl C,.inl E,fun d hd=>⟨.inl (u d hd).1,.inl (u d hd).2⟩⟩;rcases f with f|f
  ·exact .inl (s1 i f)
  ·exact .inr f
theorem Arj.Api(P:Fh h' p ql np q c S.g ps)(Z:R9 np S.g ps)(b:Ar (Atz np c) h h'):Arj h' m D p bl ql np q c { S with ps:=ps } G H/\Ar H h h':=by
 have e:∀i,G i->¬Atz np c i:=by
  rintro i f ⟨d,hd,rfl⟩;exact(a.apart.2.2.2.2 d hd).2 f
 refine⟨⟨⟨b.at hb a.Iv.Iv (a.Gw.Blc a.Iv.Iv trivial),b.at hb a.Iv.Axd (a.Gw.Blc a.Iv.Axd trivial)⟩,P,Z,a.drv.chg b e,a.apart,a.sub⟩,b.mono ?_⟩;rintro i ⟨d,hd,rfl⟩;exact(a.sub.2.2.2.2.2 d hd).2
end
theorem Rw.ext(s:Rw h m S H)(hb:HB h)(x:Ext h h'):Rw h' m S H:=by
 obtain⟨D,p,bl,ql,np,q,c,G,a⟩:=s.N8;have g:∀i o,h.get i=some o->h'.get i=some o:=fun i o g=>x.at hb g
 exact⟨fun i b=>aL (s.lt i b) x.next,D,p,bl,ql,np,q,c,G,a.Iv.ext g,a.Gw.ext g,a.psz,a.drv.ext x,a.apart,a.sub⟩
end
theorem Rw.mono{b:Nat->Prop}(s:Rw h m S H)(f:∀i,H i->b i)(l:∀i,b i->i<h.next):Rw h m S b:=by
 obtain⟨D,p,bl,ql,np,q,c,G,a⟩:=s.N8;exact⟨l,D,p,bl,ql,np,q,c,G,a.Iv,a.Gw,a.psz,a.drv,a.apart,⟨fun i e=>f _ (a.sub.1 i e),f _ a.sub.2.1,f _ a.sub.2.2.1,f _ a.sub.2.2.2.1,f _ a.sub.2.2.2.2.1,fun d hd=>⟨f _ (a.sub.2.2.2.2.2 d hd).1,f _ (a.sub.2.2.2.2.2 d hd).2⟩⟩⟩
noncomputable def Mi.leave(S:Mi)(z u:Int):Mi × Int:=
 if z = -1\/S.I7 z=true\/u=S.g.S then(S,0)else
 if u=0 then({ S with ps:=(Aq2 S.g S.g.D.toNat S.ps z).2 },(Aq2 S.g S.g.D.toNat S.ps z).1)else
 ({ S with dr:=(S.dr.finish z).1 },(S.dr.finish z).2)
theorem Alm(A:Ca disp)(T:10000<K)(hd:16<=d)(C:A4i disp K S.dr)(s:Rw h m S H)(hb:HB h){z:Int}(M:Tk z)(u:Int):
 Ok (Ag TT disp K d false 266 [.ptr m 0,I z,I u] h) fun v h'=>v=I (S.leave z u).2/\Rw h' m (S.leave z u).1 (Bh H h h')/\Ar H h h'/\HB h':=by
 obtain⟨e,rfl⟩:∃k,d=k+1:=⟨d-1,by omega⟩;rw[Ajj A (by omega)];have same:∀j,Ext h j->(z = -1\/S.I7 z=true\/u=S.g.S)->Ok (some (.int .i64 0,j)) fun v h'=>v=I (S.leave z u).2/\Rw h' m (S.leave z u).1 (Bh H h h')/\Ar H h h'/\HB h':=fun j x J=>by
  unfold Mi.leave;rw[aN J];obtain⟨_,D,p,bl,ql,np,q,c,G,a⟩:=s.ext hb x;refine .ret ⟨rfl,⟨Bh.lt s.lt x.next,D,p,bl,ql,np,q,c,G,⟨a.Iv,a.Gw,a.psz,a.drv,a.apart,⟨fun i b=>.inl (a.sub.1 i b),.inl a.sub.2.1,.inl a.sub.2.2.1,.inl a.sub.2.2.2.1,.inl a.sub.2.2.2.2.1,fun d hd=>⟨.inl (a.sub.2.2.2.2.2 d hd).1,.inl (a.sub.2.2.2.2.2 d hd).2⟩⟩⟩⟩,Ext.to x,x.hb hb⟩
 simp only[Ac5,I,Ad];by_cases j:z = -1
 ·rw[aP j]
  simp only[Aa,Ad,Lc,Ie];exact same h (Ar.refl _) (.inl j)
 ·rw[aQ j]
  simp only[Aa];refine(Hy (K:=K) s hb M).Ap ?_;rintro _ h2 ⟨rfl,o⟩;have f:=o.hb hb;have s2:=s.ext hb o;obtain⟨L,D,p,bl,ql,np,q,c,G,a⟩:=s2;have e1:Dr (.ptr m (1+2)) h2=fun k=>k (I S.g.S):=by
   funext k;rw[Cy a.Iv.Iv rfl];rfl
  cases E:S.I7 z with
  | true=>
   simp only[Aa,Ad,Lc,Ie];exact same h2 o (.inr (.inl E))
  | false=>
   simp only[Aa,Ad,Lc];rw[e1];simp only[I,Ad];by_cases hu:u=S.g.S
   ·rw[aP hu]
    simp only[Aa,Ad,Ie];exact same h2 o (.inr (.inr hu))
   ·rw[aQ hu]
    have J:¬(z = -1\/S.I7 z=true\/u=S.g.S):=by
     rintro(y|y|y)
     ·exact j y
     ·rw[E]at y;cases y
     ·exact hu y
    unfold Mi.leave;rw[aK J];simp only[Aa,Ad,Ie];by_cases h0:u=0
    ·rw[aP h0,aN h0]
     simp only[Aa,a.Iv.Gw];refine(Bbg (K:=K) A a.Gw f a.psz (by omega) (d:=e) (by omega) z M).Ap ?_;rintro _ F ⟨c3,t,rfl,O,P⟩;obtain⟨a3,cH⟩:=a.Api f O P c3;have B:Ar H h F:=(Ext.to o).trans cH;have Q:=a.psz.nd;subst Q;refine .ret ⟨rfl,Rw.mono (H:=H) ⟨fun i b=>aL (s.lt i b) B.next,D,p,bl,ql,_,q,c,G,a3⟩ (fun _=>.inl) (Bh.lt s.lt B.next),B,t⟩
    ·rw[aQ h0,aK h0]
     simp only[Aa,Yd,a.Iv.Dc];refine(Aqt (K:=K) A (d:=e) (by omega) C a.drv f z).Ap ?_;rintro _ F ⟨rfl,d3,c3,t⟩;have a3:=a.A9v f d3 c3;have cH:Ar H h2 F:=c3.mono a.sub.1;have B:Ar H h F:=(Ext.to o).trans cH;refine .ret ⟨rfl,Rw.mono (H:=Bh H h2 F) ⟨Bh.lt L c3.next,D,p,bl,ql,np,q,c,_,a3⟩ (fun i b=>?_) (Bh.lt s.lt B.next),B,t⟩;rcases b with b|b
     ·exact .inl b
     ·exact .inr ⟨bN o.next b.1,b.2⟩
theorem A6b(D:Nat)(g:Gm)(p bl n:Nat)(a b u e f i:Int):(((Aa7 D g p bl n a b u).set 265 (I e)).set 266 (I f)).set 267 (I i)=Aa7 D g p bl n e f i:=by
 unfold Aa7;have j:([EV.ptr D 0]++gL g++Ba).length=263:=by rw[aF,Rj];rfl
 rw[eH _ _ (by omega),j];show((([EV.ptr D 0]++gL g++Ba)++[EV.ptr p 0,.slice bl 0 n n false,I e,I b,I u]).set 266 (I f)).set 267 (I i)=_;rw[eH _ _ (by omega),j];show(([EV.ptr D 0]++gL g++Ba)++[EV.ptr p 0,.slice bl 0 n n false,I e,I f,I u]).set 267 (I i)=_;rw[eH _ _ (by omega),j];rfl
theorem Arj.A2s{D p bl ql np:Nat}{c:Nat->Nat}(a:Arj h m D p bl ql np q c S G H)(hb:HB h){j t v:Int}(g:h'.get m=some (.cells (Aa7 D S.g p bl (S.g.D*S.g.Z).toNat j t v) 132))(x:Ar (fun i=>i=m) h h'):
 Arj h' m D p bl ql np q c { S with a:=j,b:=t,u:=v } G H:=by
 have e:=a.Iv.Iv;have k:∀i o,h.get i=some o->(∀l,o≠.cells l 132)->h'.get i=some o:=fun i o f A=>x.at hb f fun y=>by
  subst y;rw[e]at f;cases f;exact A _ rfl
 refine⟨⟨g,k _ _ a.Iv.Axd (by intros;simp)⟩,⟨a.Gw.pos,k _ _ a.Gw.Gw (by intros;simp),k _ _ a.Gw.row (by intros;simp),fun d hd=>k _ _ (a.Gw.que d hd) (by intros;simp),fun d hd=>k _ _ (a.Gw.chan d hd) (by intros;simp),a.Gw.inj⟩,a.psz,a.drv.chg x fun i B y=>?_,a.apart,a.sub⟩;subst y;exact a.apart.1 B
def Aul(disp:Nat->Option FT)(K n:Nat):Prop:=∀T:Mc,T.ev.length<=n->A4i disp K T
theorem A42:∀(l:List Lq) (D:Dv) (k:List Lq),(Az8 l D k).ev.length<=l.length
 | [],_,_=>aC _
 | e::r,D,k=>by
  unfold Az8;split
  ·exact aC _
  ·have:=A42 r (D.Sx e) (k++[e])
   exact Nat.le_succ_of_le this
theorem Mc.Bfz(S:Mc)(i:Int):(S.begin i).ev.length<=S.ev.length:=by
 unfold Mc.begin;split
 ·exact A42 _ _ _
 ·exact aC _
theorem Mi.Bcu(S:Mi)(z u:Int):(S.leave z u).1.dr.ev.length<=S.dr.ev.length:=by
 unfold Mi.leave;split
 ·exact aC _
 ·split
  ·exact aC _
  ·exact S.dr.Bfz z
noncomputable def Mi.close(S:Mi):Mi × Int:=
 (((({ S with a:=-1,b:=-1,u:=0 }:Mi).leave S.a S.u).1.leave S.b S.u).1,if(({ S with a:=-1,b:=-1,u:=0 }:Mi).leave S.a S.u).2=0 then((({ S with a:=-1,b:=-1,u:=0 }:Mi).leave S.a S.u).1.leave S.b S.u).2 else(({ S with a:=-1,b:=-1,u:=0 }:Mi).leave S.a S.u).2)
theorem Awy(A:Ca disp)(P:10000<K)(hd:17<=d)(f:Aul disp K n)(Q:S.dr.ev.length<=n)(s:Rw h m S H)(hb:HB h)(W:Tk S.a)(C:Tk S.b):
 Ok (Ag TT disp K d false 240 [.ptr m 0] h) fun v h'=>v=I S.close.2/\Rw h' m S.close.1 (Bh H h h')/\Ar H h h'/\HB h':=by
 obtain⟨e,rfl⟩:∃k,d=k+1:=⟨d-1,by omega⟩;rw[Aj4 A (by omega)];obtain⟨lt,D,p,bl,ql,np,q,c,G,a⟩:=s;have ml:=Aza D S.g p bl (S.g.D*S.g.Z).toNat S.a S.b S.u;simp only[Ada,Aa,a.Iv.oa,a.Iv.ob,a.Iv.ou];refine Ok.Ayp a.Iv.Iv hb rfl rfl (by omega) ?_;intro h1 X c1 E
 try simp only[Aa]
 refine Ok.Ayp X E rfl rfl (by rw[bR];omega) ?_;intro h2 Y c2 F
 try simp only[Aa]
 refine Ok.Ayp Y F rfl rfl (by rw[bR,bR];omega) ?_;intro T U c3 J;rw[show EV.int .i64 (-1)=I (-1)from rfl,show EV.int .i64 0=I 0 from rfl,A6b]at U;have t:=(c1.trans c2).trans c3;have a3:=a.A2s hb U t;have cH:Ar H h T:=t.mono fun i o=>by subst o;exact a.sub.2.1
 have s3:Rw T m { S with a:=-1,b:=-1,u:=0 } H:=⟨fun i o=>aL (lt i o) cH.next,D,p,bl,ql,np,q,c,G,a3⟩;unfold Mi.close;refine(Alm (K:=K) (S:={ S with a:=-1,b:=-1,u:=0 }) A P (d:=e) (by omega) (f S.dr Q) s3 J W S.u).Ap ?_;have j:=Mi.Bcu { S with a:=-1,b:=-1,u:=0 } S.a S.u;generalize ({ S with a:=-1,b:=-1,u:=0 }:Mi).leave S.a S.u=r at j⊢;rintro _ h4 ⟨rfl,s4,c4,L⟩;refine(Alm (K:=K) A P (d:=e) (by omega) (f _ (bN j Q)) s4 L C S.u).Ap ?_;rintro _ M ⟨rfl,s5,c5,x⟩;have B:Ar H h h4:=cH.trans c4;have O:Ar H h M:=B.then c5 fun i o hl=>by
  rcases o with y|y
  ·exact y
  ·have:=cH.next;omega
 have V:Rw M m (r.1.leave S.b S.u).1 (Bh H h M):=s5.mono (fun i o=>by
  rcases o with(y|y)|y
  ·exact .inl y
  ·have:=cH.next;have:=c5.next;exact .inr ⟨by omega,by omega⟩
  ·have:=B.next;exact .inr ⟨by omega,y.2⟩) (Bh.lt lt O.next)
 simp only[I,Ad];by_cases h0:r.2=0
 ·rw[aP h0,aN h0]
  simp only[Aa,P6];exact .ret ⟨rfl,V,O,x⟩
 ·rw[aQ h0,aK h0]
  simp only[Aa,P6];exact .ret ⟨rfl,V,O,x⟩
def Mi.dropped(S:Mi)(z:Int):Nat->List Int:=if Ej S.g z<0 then S.ps else upd S.ps (Ej S.g z).toNat (Sz z (S.ps (Ej S.g z).toNat))
def Mi.mark(S:Mi)(z:Int):Mi:={ S with bad:=fun i=>if i=z.toNat then 1 else S.bad i,ps:=S.dropped z }
noncomputable def Mi.Bt(S:Mi)(z:Int):Mi × Int:=
 if Ej S.g z<0 then(S,13)else if S.I7 z=true then(S,16)else
 if ¬z=S.a/\¬z=S.b then(S.mark z,0)else((S.mark z).close.1,if(S.mark z).close.2=34 then 34 else 0)
theorem Arj.Bng{D p bl ql np:Nat}{c:Nat->Nat}(a:Arj h m D p bl ql np q c S G H)(hb:HB h){b:Nat->Int}(g:h'.get bl=some (.cells ((List.range (S.g.D*S.g.Z).toNat).map fun z=>I (b z)) 3))(j:Ar (fun i=>i=bl) h h'):
 Arj h' m D p bl ql np q c { S with bad:=b } G H:=by
 have e:=a.Iv.Axd;have k:∀i o,h.get i=some o->(∀l,o≠.cells l 3)->h'.get i=some o:=fun i o f t=>j.at hb f fun y=>by
  subst y;rw[e]at f;cases f;exact t _ rfl
 refine⟨⟨k _ _ a.Iv.Iv (by intros;simp),g⟩,⟨a.Gw.pos,k _ _ a.Gw.Gw (by intros;simp),k _ _ a.Gw.row (by intros;simp),fun d hd=>k _ _ (a.Gw.que d hd) (by intros;simp),fun d hd=>k _ _ (a.Gw.chan d hd) (by intros;simp),a.Gw.inj⟩,a.psz,a.drv.chg j fun i u y=>?_,a.apart,a.sub⟩;subst y;exact a.apart.2.1 u
theorem Bh.up{e h2:Ab}(a:h.next<=e.next)(b:e.next<=h2.next){i:Nat}(g:Bh H e h2 i):Bh H h h2 i:=by
 rcases g with y|y
 ·exact .inl y
 ·exact .inr ⟨by omega,y.2⟩
theorem Aoi(A:Ca disp)(hK:10000<K)(hd:18<=d)(C:Aul disp K n)(hn:S.dr.ev.length<=n)(s:Rw h m S H)(hb:HB h)(ha:Tk S.a)(Q:Tk S.b){z:Int}(T:Tk z):
 Ok (Ag TT disp K d false 197 [.ptr m 0,I z] h) fun v h'=>v=I (S.Bt z).2/\Rw h' m (S.Bt z).1 (Bh H h h')/\Ar H h h'/\HB h':=by
 obtain⟨e,rfl⟩:∃k,d=k+1:=⟨d-1,by omega⟩;rw[Ab0 A (by omega)];obtain⟨lt,D,p,bl,ql,np,q,c,G,a⟩:=s;have s:Rw h m S H:=⟨lt,D,p,bl,ql,np,q,c,G,a⟩;have sm:=a.psz.sm;simp only[Ul,Aa,a.Iv.A9f];refine(Jv sm z T h).Ap ?_;rintro _ h1 ⟨rfl,E⟩;have f:=E.hb hb;have s1:=s.ext hb E;unfold Mi.Bt;simp only[I,Ad];rcases Ag6 sm z with U|⟨d0,d1,d2,d3,d4⟩
 ·rw[U]
  simp only[show(-1:Int)<0 by decide,aB,Aa,bG];exact .ret ⟨rfl,s1.mono (fun _=>.inl) (Bh.lt lt E.next),Ext.to E,f⟩
 ·rw[aQ (show ¬Ej S.g z<0 by omega),aK (show ¬Ej S.g z<0 by omega)]
  simp only[Aa];refine(Hy (K:=K) s1 f T).Ap ?_;rintro _ h2 ⟨rfl,P⟩;have u:=P.hb f;have x:=E.trans P;cases af:S.I7 z with
  | true=>
   simp only[Aa,bG];exact .ret ⟨rfl,(s1.ext f P).mono (fun _=>.inl) (Bh.lt lt x.next),Ext.to x,u⟩
  | false=>
   simp only[Aa,aU,aY,Ro];obtain⟨ag,D,p,bl,ql,np,q,c,G,a⟩:=s1.ext f P;obtain⟨j,rfl⟩:∃j:Nat,z=j:=⟨z.toNat,by omega⟩;have hj:j<(S.g.D*S.g.Z).toNat:=by omega
   rw[a.Iv.Bpl,Mg hj,bC,bc];refine Ok.Ayp a.Iv.Axd u rfl rfl (by rw[bU,eI];exact hj) ?_;intro h3 X c3 F;have J:((List.range (S.g.D*S.g.Z).toNat).map fun z=>I (S.bad z)).set j (.int .i64 1)=(List.range (S.g.D*S.g.Z).toNat).map fun z=>I ((S.mark j).bad z):=by
    apply eA;intro i;rw[List.getElem?_set,av,av,bU,eI];by_cases o:j=i
    ·subst o
     rw[aN rfl,aN hj,cF hj];simp[Mi.mark,I]
    ·rw[aK o]
     rcases dH i (S.g.D*S.g.Z).toNat with hl|hg
     ·rw[cF hl]
      have:¬i=j:=fun y=>o y.symm
      simp[Mi.mark,this]
     ·rw[cA (by rw[eI];exact hg)];rfl
   rw[J]at X;have a3:=a.Bng u X c3;have V:Ar H h h3:=(Ext.to x).trans (c3.mono fun i o=>by subst o;exact a.sub.2.2.1)
   try simp only[Aa]
   rw[a3.Iv.Gw];refine(Bme (K:=K) A (by omega) a3.Gw F a3.psz (d:=e) (by omega) j T).Ap ?_;rintro _ h4 ⟨⟨er,rfl⟩,c4,L,P4,Z4⟩;obtain⟨a4,cH⟩:=a3.Api F P4 Z4 c4;have a4:Arj h4 m D p bl ql np q c (S.mark j) G H:=a4;have M:Ar H h h4:=V.trans cH;have Y:Rw h4 m (S.mark j) H:=⟨fun i o=>aL (lt i o) M.next,D,p,bl,ql,np,q,c,G,a4⟩
   try simp only[Aa]
   rw[a4.Iv.oa];have close:¬(¬(j:Int)=S.a/\¬(j:Int)=S.b)->Ok (Ld (Ag TT disp K e false) (Ag TT disp K e true) K (.ptr m 0) h4) fun v h'=>v=I (if ¬(j:Int)=S.a/\¬(j:Int)=S.b then(S.mark j,(0:Int))else((S.mark j).close.1,if(S.mark j).close.2=34 then 34 else 0)).2/\Rw h' m (if ¬(j:Int)=S.a/\¬(j:Int)=S.b then(S.mark j,(0:Int))else((S.mark j).close.1,if(S.mark j).close.2=34 then 34 else 0)).1 (Bh H h h')/\Ar H h h'/\HB h':=by
    intro W;rw[aK W];simp only[Ld,dr];refine(Awy (K:=K) A hK (d:=e) (by omega) C (S:=S.mark j) hn Y L ha Q).Ap ?_;rintro _ h5 ⟨rfl,s5,c5,O⟩;have B:=M.trans c5;have s6:=s5.mono (fun i o=>Bh.up M.next c5.next o) (Bh.lt lt B.next);simp only[I,Ad];by_cases t:(S.mark j).close.2=34
    ·rw[aP t,aN t]
     simp only[Aa];exact .ret ⟨rfl,s6,B,O⟩
    ·rw[aQ t,aK t]
     simp only[Aa,Rm];exact .ret ⟨rfl,s6,B,O⟩
   simp only[I,Ad]at close⊢;rw[show(S.mark (j:Int)).a=S.a from rfl];by_cases e1:(j:Int)=S.a
   ·rw[show decide (¬(j:Int)=S.a)=false from aQ fun y=>y e1]
    simp only[Aa,Ad,Le];exact close fun y=>y.1 e1
   ·rw[show decide (¬(j:Int)=S.a)=true from aP e1]
    simp only[Aa,Ad];rw[a4.Iv.ob];simp only[I,Ad,Le,Aa];rw[show(S.mark (j:Int)).b=S.b from rfl];by_cases e2:(j:Int)=S.b
    ·rw[show decide (¬(j:Int)=S.b)=false from aQ fun y=>y e2]
     simp only[Aa];exact close fun y=>y.2 e2
    ·rw[show decide (¬(j:Int)=S.b)=true from aP e2]
     simp only[Aa];rw[aN ⟨e1,e2⟩];exact .ret ⟨rfl,Y.mono (fun _=>.inl) (Bh.lt lt M.next),M,L⟩
def Aus(ps:Nat->List Int)(n:Nat):Option (Int × Int × (Nat->List Int)):=
 if Zh ps n=0 then none else
 some ((ps (Fx ps (-1) n).toNat).headD 0,(ps (Fx ps (Fx ps (-1) n) n).toNat).headD 0,
  upd (upd ps (Fx ps (-1) n).toNat (ps (Fx ps (-1) n).toNat).tail) (Fx ps (Fx ps (-1) n) n).toNat (ps (Fx ps (Fx ps (-1) n) n).toNat).tail)
noncomputable def Mi.ready(S:Mi):Mi × Int:=
 if ¬S.a = -1/\S.u<S.g.S then(S,0)else
 if ¬S.dr.flush.2=0 then({ S with dr:=S.dr.flush.1 },S.dr.flush.2)else
 match Aus S.ps S.g.D.toNat with
 | none=>({ S with dr:=S.dr.flush.1 },40)
 | some (x,y,e)=>({ S with dr:=S.dr.flush.1,ps:=e,a:=x,b:=y,u:=0 },0)
theorem Axc(A:Ca disp)(hK:10000<K)(hd:16<=d)(L:Aul disp K n)(hn:S.dr.ev.length<=n)(s:Rw h m S H)(hb:HB h):
 Ok (Ag TT disp K d false 232 [.ptr m 0] h) fun v h'=>v=I S.ready.2/\Rw h' m S.ready.1 (Bh H h h')/\Ar H h h'/\HB h':=by
 obtain⟨e,rfl⟩:∃k,d=k+1:=⟨d-1,by omega⟩;rw[Ajk A (by omega)];obtain⟨lt,D,p,bl,ql,np,q,c,G,a⟩:=s;have s:Rw h m S H:=⟨lt,D,p,bl,ql,np,q,c,G,a⟩;have V:=a.psz.nd;subst V;have es:Dr (.ptr m (1+2)) h=fun k=>k (I S.g.S):=by
  funext k;rw[Cy a.Iv.Iv rfl];rfl
 have two:¬(¬S.a = -1/\S.u<S.g.S)->Ok (Pv (Ag TT disp K e false) (Ag TT disp K e true) K (.ptr m 0) h) fun v h'=>v=I S.ready.2/\Rw h' m S.ready.1 (Bh H h h')/\Ar H h h'/\HB h':=by
  intro W;unfold Mi.ready;rw[aK W];simp only[Pv,Aa,a.Iv.Dc];refine(At2 (K:=K) A (by omega) (d:=e) (by omega) (L _ hn) a.drv hb).Ap ?_;rintro _ h2 ⟨rfl,d2,c2,j⟩;have C:=a.A9v hb d2 c2;have o:Ar H h h2:=c2.mono a.sub.1;have E:=Bh.lt lt o.next
  simp only[I,Ad];by_cases O:S.dr.flush.2=0
  ·rw[aQ (show ¬¬S.dr.flush.2=0 from fun y=>y O),aK (show ¬¬S.dr.flush.2=0 from fun y=>y O)]
   simp only[Aa,Wl,C.Iv.Gw];refine(Bku (K:=K) C.Gw j C.psz (by omega)).Ap ?_;rintro _ h3 ⟨c3,F,hh⟩;rcases hh with⟨p0,rfl,X⟩|⟨x,y,Y,vy,r,t,hp,f1,f2,hx,hy,aq,e1,e2,rfl,X,Z3⟩
   ·obtain⟨a3,J⟩:=C.Api j X C.psz c3
    have P:Ar H h h3:=o.grow J;have hg:Aus S.ps S.g.D.toNat=none:=by unfold Aus;rw[aN p0]
    rw[hg];simp only[Aa,I,Ad];simp only[show ¬((15:Int)=0) by decide,aG,aB,Aa];refine .ret ⟨rfl,Rw.mono (H:=Bh H h h2) ⟨fun i f=>aL (E i f) c3.next,D,p,bl,ql,_,q,c,_,a3⟩ (fun i f=>Bh.le c3.next f) (Bh.lt lt P.next),P,F⟩
   ·obtain⟨a3,J⟩:=C.Api j X Z3 c3
    have P:Ar H h h3:=o.grow J;have hg:Aus S.ps S.g.D.toNat=some (Y,vy,upd (upd S.ps x r) y t):=by
     unfold Aus;have e1:S.ps x=Y::r:=e1;have e2:S.ps y=vy::t:=e2;have f1:Fx S.ps (-1) S.g.D.toNat=x:=f1;have f2:Fx S.ps x S.g.D.toNat=y:=f2;rw[aK hp,f1,f2];simp only[bK,e1,e2,List.headD_cons,List.tail_cons]
    rw[hg];simp only[Aa,I,Ad];simp only[aD,aA,Aa,Yc];have ml:=Aza D S.g p bl (S.g.D*S.g.Z).toNat S.a S.b S.u;refine Ok.Ayp a3.Iv.Iv F rfl rfl (by show 265<(Aa7 D S.g p bl (S.g.D*S.g.Z).toNat S.a S.b S.u).length;omega) ?_;intro h4 g4 c4 ad
    try simp only[Aa]
    refine Ok.Ayp g4 ad rfl rfl (by rw[bR];show 266<(Aa7 D S.g p bl (S.g.D*S.g.Z).toNat S.a S.b S.u).length;omega) ?_;intro h5 g5 c5 ae
    try simp only[Aa]
    refine Ok.Ayp g5 ae rfl rfl (by rw[bR,bR];show 267<(Aa7 D S.g p bl (S.g.D*S.g.Z).toNat S.a S.b S.u).length;omega) ?_;intro h6 Q c6 af;have Q:h6.get m=some (.cells ((((Aa7 D S.g p bl (S.g.D*S.g.Z).toNat S.a S.b S.u).set 265 (I Y)).set 266 (I vy)).set 267 (I 0)) 132):=Q;rw[A6b]at Q;have B:=(c4.trans c5).trans c6;have a6:=a3.A2s F Q B;have M:Ar H h h6:=P.then (B.mono (T:=fun i=>i=m) fun i f=>f) fun i f _=>by subst f;exact a.sub.2.1
    exact .ret ⟨rfl,Rw.mono (H:=Bh H h h2) ⟨fun i f=>aL (E i f) (bN c3.next B.next),D,p,bl,ql,_,q,c,_,a6⟩ (fun i f=>Bh.le (bN c3.next B.next) f) (Bh.lt lt M.next),M,af⟩
  ·rw[aP O,aN O]
   simp only[Aa];exact .ret ⟨rfl,⟨E,D,p,bl,ql,_,q,c,_,C⟩,o,j⟩
 have done:¬S.a = -1/\S.u<S.g.S->Ok (some (.int .i64 0,h)) fun v h'=>v=I S.ready.2/\Rw h' m S.ready.1 (Bh H h h')/\Ar H h h'/\HB h':=fun hy=>by
  unfold Mi.ready;rw[aN hy];exact .ret ⟨rfl,s.mono (fun _=>.inl) (Bh.lt lt (aC _)),Ar.refl _,hb⟩
 simp only[Acl,Aa,a.Iv.oa,I,Ad];by_cases U:S.a = -1
 ·rw[aQ (show ¬¬S.a = -1 from fun y=>y U)]
  simp only[Aa,La,Ad];exact two fun y=>y.1 U
 ·rw[aP U]
  simp only[Aa,Ad,a.Iv.ou,es,I];by_cases h2:S.u<S.g.S
  ·rw[aP h2]
   simp only[La,Aa];exact done ⟨U,h2⟩
  ·rw[aQ h2]
   simp only[La,Aa];exact two fun y=>h2 y.2
end Go.Ev
