import Derived.Test.YtokpnommcenoaaaGreatYa
import Derived.Test.YtokpnommcenoaaaGreatXb
import Derived.Test.YtokpnommcenoaaaGreatXa
set_option linter.all false
namespace Go.Ev
open Go.Proofs
set_option maxRecDepth 100000
variable {g:Gm}{h h':Ab}{K d m n:Nat}{G H:Nat->Prop}{ps:Nat->List Int}{q:Nat->Nat}{disp:Nat->Option FT}
def Y6(g:Gm)(z off:Int):Bool:=rtB g&&(wi z 0 (g.D*g.Z-1)&&wi off 0 (g.S-1))
theorem Aav(hb:HB h)(z off:Int):Ok (Mp K (gV g) (I z) (I off) h) fun v h'=>v=.bool (Y6 g z off)/\Ext h h':=by
 simp only[Mp,gV,Aa];obtain⟨y,C,i,o,_⟩:=nW h (.cells (gL g) 23);rw[C];have e:=i.hb hb;rw[Cy o rfl,Ak (show(gL g).length=6 from rfl)];simp only[Gr];rw[show EV.agg (gL g)=gV g from rfl];refine(Vg (K:=K) g y).Am ?_;rintro _ h2 ⟨rfl,f⟩;have k:=f.hb e;have t:=f.at e o;unfold Y6;cases E:rtB g with
 | false=>
  simp only[Aa,Ac,Pl,Pp,ak];exact .ret ⟨rfl,i.trans f⟩
 | true=>
  have s:=Ul E;have:=s.d0;have:=s.d1;have:=s.z0;have:=s.z1;have:=s.s0;have:=s.s1;obtain⟨F,J⟩:=N3 (a:=g.D) (b:=g.Z) (A:=8) (B:=64) (by omega) (by omega) (by omega) (by omega);simp only[Aa,Ac,bD];rw[Cy t rfl,Ak (show(gL g).length=6 from rfl)];simp only[Gr];rw[show EV.agg (gL g)=gV g from rfl,Ni s,Ap];have j:Ext h2 (h2.new (.cells (gL g) 23)):=Au.new _ _;have u:=j.at k t;generalize h2.new (.cells (gL g) 23)=x at j u⊢;simp only[I,Ac];rw[Cg];have w1:=Xi (K:=K) z 0 (g.D*g.Z-1) x;simp only[I]at w1;rw[w1,Ap];cases wi z 0 (g.D*g.Z-1)with
  | false=>
   simp only[Aa,Ac,Pl,Pp,ak];exact .ret ⟨rfl,(i.trans f).trans j⟩
  | true=>
   simp only[Aa,Ac,Pl];rw[Cz u rfl,show(gL g)[2]? = some (I g.S)from rfl];simp only[Gr,I,Ac];rw[Cg];have w2:=Xi (K:=K) off 0 (g.S-1) x;simp only[I]at w2;rw[w2,Ap];simp only[Pp,Aa,bD];exact .ret ⟨rfl,(i.trans f).trans j⟩
structure Me where
 state:Int
 An:Int
 Bt:Int
 off:Int
 seq:Int
 sum:Int
def Me.cells(m:Me):List EV:=[I m.state,I m.An,I m.Bt,I m.off,I m.seq,I m.sum]
def meB(g:Gm)(m:Me):Bool:=Y6 g m.An m.off&&(Y6 g m.Bt m.off&&(decide (¬Eu g m.An=Eu g m.Bt)&&(decide (1<=m.seq)&&(decide (m.seq<=281474976710655)&&(decide (0<=m.sum)&&decide (m.sum<=4294967295))))))
def Qu(z:Int):Prop:=-9223372036854775808<=z/\z<=9223372036854775807
theorem Asu{m:Me}(hb:HB h)(hs:m.state=1)(T:Qu m.An)(hm:Qu m.Bt):Ok (Iz K (.agg m.cells) (gV g) h) fun v h'=>v=.bool (meB g m)/\Ext h h':=by
 simp only[Iz,gV,Aa];have A:Ext h ((h.new (.cells m.cells 53)).new (.cells (gL g) 23)):=(Au.new _ _).C8 _;have b:((h.new (.cells m.cells 53)).new (.cells (gL g) 23)).get h.next=some (.cells m.cells 53):=by
  rw[Ay _ (aR _)];exact Ad _ _
 have i:((h.new (.cells m.cells 53)).new (.cells (gL g) 23)).get (h.next+1)=some (.cells (gL g) 23):=Ad _ _;rw[show(h.new (.cells m.cells 53)).next=h.next+1 from rfl];generalize (h.new (.cells m.cells 53)).new (.cells (gL g) 23)=V at A b i⊢;have f:=A.hb hb;have l0:m.cells[0]? = some (I 1):=by rw[<-hs];rfl
 have l1:m.cells[1]? = some (I m.An):=rfl;have L:m.cells[2]? = some (I m.Bt):=rfl;have M:m.cells[3]? = some (I m.off):=rfl;have O:m.cells[4]? = some (I m.seq):=rfl;have P:m.cells[5]? = some (I m.sum):=rfl;have B:(gL g).length=6:=rfl;have e:=f _ _ b;have k:=f _ _ i;rw[Cz b rfl,l0];simp only[Gr,I,Ac];simp only[show ¬((1:Int)=0) by decide,show ¬((1:Int)=2) by decide,aA,Aa,Kj,Ac,aB];simp only[Aa,Ce k,Ar,Cy i rfl,Ak B,Ce e,Cz b rfl,l1,M,Gr];rw[show EV.agg (gL g)=gV g from rfl];refine Ok.bE (Aav (K:=K) (Da f) m.An m.off) (fun _ _ p=>p.2) ?_;rintro _ _ h2 ⟨rfl,_⟩ _ u;have o:=u.hb f;have b:=u.at f b;have i:=u.at f i;unfold meB;cases Q:Y6 g m.An m.off with
 | false=>
  simp only[Aa,Ac,Ki,Kr,Ic,Ga,Fa,Ej,ak];exact .ret ⟨rfl,A.trans u⟩
 | true=>
 have F:rtB g=true:=by unfold Y6 at Q;exact((bL _ _).mp Q).1
 have sm:=Ul F;simp only[Aa,Ac,Ce k,Ar,Cy i rfl,Ak B,Ce e,Cz b rfl,L,M,Gr];rw[show EV.agg (gL g)=gV g from rfl];refine Ok.bE (Aav (K:=K) (Da o) m.Bt m.off) (fun _ _ p=>p.2) ?_;rintro _ _ W ⟨rfl,_⟩ _ C;have t:=C.hb o;have b:=C.at o b;have i:=C.at o i;have x:=(A.trans u).trans C;simp only[bD];cases Y6 g m.Bt m.off with
 | false=>
  simp only[Aa,Ac,Ki,Kr,Ic,Ga,Fa,Ej,ak];exact .ret ⟨rfl,x⟩
 | true=>
 simp only[Aa,Ac,Ki,Ce k,Ar,Cy i rfl,Ak B,Ce e,Cz b rfl,l1,Gr,bD];rw[show EV.agg (gL g)=gV g from rfl];refine Ok.bE (Jh sm m.An T _) (fun _ _ p=>p.2) ?_;rintro _ _ h4 ⟨rfl,_⟩ _ E;have y:=E.hb t;have b:=E.at t b;have i:=E.at t i;simp only[Aa,Ac,Ce k,Ar,Cy i rfl,Ak B,Ce e,Cz b rfl,L,Gr];rw[show EV.agg (gL g)=gV g from rfl];refine Ok.bE (Jh sm m.Bt hm _) (fun _ _ p=>p.2) ?_;rintro _ _ X ⟨rfl,_⟩ _ J;have U:=J.hb y;have b:=J.at y b;have j:=(x.trans E).trans J;simp only[Aa,Ac,I,Kr];cases decide (¬Eu g m.An=Eu g m.Bt)with
 | false=>
  simp only[Aa,Ac,Ic,Ga,Fa,Ej,ak];exact .ret ⟨rfl,j⟩
 | true=>
 simp only[Aa,Ac,Ar,Ce e,Cz b rfl,O,Gr,I,bD,Ic];cases decide (1<=m.seq)with
 | false=>
  simp only[Aa,Ac,Ga,Fa,Ej,ak];exact .ret ⟨rfl,j⟩
 | true=>
 simp only[Aa,Ac,Ar,Ce e,Cz b rfl,O,Gr,I,bD,Ga];cases decide (m.seq<=281474976710655)with
 | false=>
  simp only[Aa,Ac,Fa,Ej,ak];exact .ret ⟨rfl,j⟩
 | true=>
 simp only[Aa,Ac,Ar,Ce e,Cz b rfl,P,Gr,I,bD,Fa];cases decide (0<=m.sum)with
 | false=>
  simp only[Aa,Ac,Ej,ak];exact .ret ⟨rfl,j⟩
 | true=>
 simp only[Aa,Ac,Ar,Ce e,Cz b rfl,P,Gr,I,bD,Ej];exact .ret ⟨rfl,j⟩
structure Mi where
 g:Gm
 dr:Kx
 ps:Nat->List Int
 bad:Nat->Int
 a:Int
 b:Int
 u:Int
structure Aud(h:Ab)(m D p bl ql np:Nat)(q c:Nat->Nat)(S:Mi)(G H:Nat->Prop):Prop where
 Hf:Ab4 h m D p bl (S.g.D*S.g.Z).toNat S.g S.a S.b S.u S.bad
 Gd:E0 h p ql np q c S.g S.ps
 psz:Ti np S.g S.ps
 drv:Fh h D S.dr G
 apart:¬G m/\¬G bl/\¬G p/\¬G ql/\∀d,d<np->¬G (q d)/\¬G (c d)
 sub:(∀i,G i->H i)/\H m/\H bl/\H p/\H ql/\∀d,d<np->H (q d)/\H (c d)
structure Sa(h:Ab)(m:Nat)(S:Mi)(H:Nat->Prop):Prop where
 lt:∀i,H i->i<h.next
 Mn:∃D p bl ql np q c G,Aud h m D p bl ql np q c S G H
def Mi.Jr(S:Mi)(z:Int):Bool:=decide (0<=Eu S.g z)&&decide (S.bad z.toNat=1)
theorem Jg{S:Mi}(s:Sa h m S H)(hb:HB h){z:Int}(f:Qu z):
 Ok (Dy K (.ptr m 0) (I z) h) fun v h'=>v=.bool (S.Jr z)/\Ext h h':=by
 obtain⟨D,p,bl,ql,np,q,c,G,a⟩:=s.Mn;have sm:=a.psz.sm;simp only[Dy,Aa,a.Hf.Bc0];refine(Jh sm z f h).Am ?_;rintro _ k ⟨rfl,b⟩;have e:=a.Hf.ext fun i o g=>b.at hb g
 unfold Mi.Jr;simp only[I,Ac];rcases Aew sm z with hd|⟨d0,d1,d2,d3,d4⟩
 ·rw[hd]
  simp only[show ¬((0:Int)<=-1) by decide,aA,Aa,Tc,ak];exact .ret ⟨rfl,b⟩
 ·rw[aJ d0]
  simp only[Aa,e.Bt9];obtain⟨j,rfl⟩:∃j:Nat,z=j:=⟨z.toNat,by omega⟩;have hj:j<(S.g.D*S.g.Z).toNat:=by omega
  rw[N5 hj,Cz e.Azx rfl];rw[show((List.range (S.g.D*S.g.Z).toNat).map fun z=>I (S.bad z))[0+j*1]? = some (I (S.bad j)) by rw[bF,bk,bA,cQ hj];rfl];simp only[Gr,I,Ac,Tc,Aa,bD];exact .ret ⟨rfl,b⟩
variable {S:Mi}
section
section
variable{D p bl ql np:Nat}{c:Nat->Nat}(a:Aud h m D p bl ql np q c S G H)(hb:HB h)
include a hb
theorem Aud.lts:m<h.next/\bl<h.next/\p<h.next/\ql<h.next/\∀d,d<np->q d<h.next/\c d<h.next:=
 ⟨hb _ _ a.Hf.Hf,hb _ _ a.Hf.Azx,hb _ _ a.Gd.Gd,hb _ _ a.Gd.row,fun d hd=>⟨hb _ _ (a.Gd.que d hd),hb _ _ (a.Gd.chan d hd)⟩⟩
theorem Aud.Bch {dr:Kx}(d:Fh h' D dr (Bi G h h'))(b:Au G h h'):Aud h' m D p bl ql np q c { S with dr:=dr } (Bi G h h') (Bi H h h'):=by
 obtain⟨l1,v,x,A,k⟩:=a.lts hb;obtain⟨o,t,n3,n4,j⟩:=a.apart;have e:∀{i},¬G i->i<h.next->¬Bi G h h' i:=fun y l z=>by
  rcases z with z|z
  ·exact y z
  ·omega
 refine⟨⟨b.at hb a.Hf.Hf o,b.at hb a.Hf.Azx t⟩,?_,a.psz,d,⟨e o l1,e t v,e n3 x,e n4 A,fun d hd=>⟨e (j d hd).1 (k d hd).1,e (j d hd).2 (k d hd).2⟩⟩,?_⟩
 ·exact⟨a.Gd.pos,b.at hb a.Gd.Gd n3,b.at hb a.Gd.row n4,fun d hd=>b.at hb (a.Gd.que d hd) (j d hd).1,fun d hd=>b.at hb (a.Gd.chan d hd) (j d hd).2,a.Gd.inj⟩
 ·obtain⟨s1,s2,B,C,E,u⟩:=a.sub
  refine⟨fun i f=>?_,.inl s2,.inl B,.inl C,.inl E,fun d hd=>⟨.inl (u d hd).1,.inl (u d hd).2⟩⟩;rcases f with f|f
  ·exact .inl (s1 i f)
  ·exact .inr f
theorem Aud.Arq(P:E0 h' p ql np q c S.g ps)(Z:Ti np S.g ps)(b:Au (Aw8 np c) h h'):Aud h' m D p bl ql np q c { S with ps:=ps } G H/\Au H h h':=by
 have e:∀i,G i->¬Aw8 np c i:=by
  rintro i f ⟨d,hd,rfl⟩;exact(a.apart.2.2.2.2 d hd).2 f
 refine⟨⟨⟨b.at hb a.Hf.Hf (a.Gd.Bpi a.Hf.Hf trivial),b.at hb a.Hf.Azx (a.Gd.Bpi a.Hf.Azx trivial)⟩,P,Z,a.drv.chg b e,a.apart,a.sub⟩,b.mono ?_⟩;rintro i ⟨d,hd,rfl⟩;exact(a.sub.2.2.2.2.2 d hd).2
end
theorem Sa.ext(s:Sa h m S H)(hb:HB h)(x:Ext h h'):Sa h' m S H:=by
 obtain⟨D,p,bl,ql,np,q,c,G,a⟩:=s.Mn;have g:∀i o,h.get i=some o->h'.get i=some o:=fun i o g=>x.at hb g
 exact⟨fun i b=>aN (s.lt i b) x.next,D,p,bl,ql,np,q,c,G,a.Hf.ext g,a.Gd.ext g,a.psz,a.drv.ext x,a.apart,a.sub⟩
end
theorem Sa.mono{b:Nat->Prop}(s:Sa h m S H)(f:∀i,H i->b i)(l:∀i,b i->i<h.next):Sa h m S b:=by
 obtain⟨D,p,bl,ql,np,q,c,G,a⟩:=s.Mn;exact⟨l,D,p,bl,ql,np,q,c,G,a.Hf,a.Gd,a.psz,a.drv,a.apart,⟨fun i e=>f _ (a.sub.1 i e),f _ a.sub.2.1,f _ a.sub.2.2.1,f _ a.sub.2.2.2.1,f _ a.sub.2.2.2.2.1,fun d hd=>⟨f _ (a.sub.2.2.2.2.2 d hd).1,f _ (a.sub.2.2.2.2.2 d hd).2⟩⟩⟩
noncomputable def Mi.leave(S:Mi)(z u:Int):Mi × Int:=
 if z = -1\/S.Jr z=true\/u=S.g.S then(S,0)else
 if u=0 then({ S with ps:=(Ash S.g S.g.D.toNat S.ps z).2 },(Ash S.g S.g.D.toNat S.ps z).1)else
 ({ S with dr:=(S.dr.finish z).1 },(S.dr.finish z).2)
theorem Am5(A:Bw disp)(T:10000<K)(hd:16<=d)(C:A67 disp K S.dr)(s:Sa h m S H)(hb:HB h){z:Int}(M:Qu z)(u:Int):
 Ok (Ag TT disp K d false 266 [.ptr m 0,I z,I u] h) fun v h'=>v=I (S.leave z u).2/\Sa h' m (S.leave z u).1 (Bi H h h')/\Au H h h'/\HB h':=by
 obtain⟨e,rfl⟩:∃k,d=k+1:=⟨d-1,by omega⟩;rw[Ak1 A (by omega)];have same:∀j,Ext h j->(z = -1\/S.Jr z=true\/u=S.g.S)->Ok (some (.int .i64 0,j)) fun v h'=>v=I (S.leave z u).2/\Sa h' m (S.leave z u).1 (Bi H h h')/\Au H h h'/\HB h':=fun j x J=>by
  unfold Mi.leave;rw[aQ J];obtain⟨_,D,p,bl,ql,np,q,c,G,a⟩:=s.ext hb x;refine .ret ⟨rfl,⟨Bi.lt s.lt x.next,D,p,bl,ql,np,q,c,G,⟨a.Hf,a.Gd,a.psz,a.drv,a.apart,⟨fun i b=>.inl (a.sub.1 i b),.inl a.sub.2.1,.inl a.sub.2.2.1,.inl a.sub.2.2.2.1,.inl a.sub.2.2.2.2.1,fun d hd=>⟨.inl (a.sub.2.2.2.2.2 d hd).1,.inl (a.sub.2.2.2.2.2 d hd).2⟩⟩⟩⟩,Ext.to x,x.hb hb⟩
 simp only[Aed,I,Ac];by_cases j:z = -1
 ·rw[aJ j]
  simp only[Aa,Ac,K9,Hy];exact same h (Au.refl _) (.inl j)
 ·rw[aK j]
  simp only[Aa];refine(Jg (K:=K) s hb M).Am ?_;rintro _ h2 ⟨rfl,o⟩;have f:=o.hb hb;have s2:=s.ext hb o;obtain⟨L,D,p,bl,ql,np,q,c,G,a⟩:=s2;have e1:Fy (.ptr m (1+2)) h2=fun k=>k (I S.g.S):=by
   funext k;rw[Cz a.Hf.Hf rfl];rfl
  cases E:S.Jr z with
  | true=>
   simp only[Aa,Ac,K9,Hy];exact same h2 o (.inr (.inl E))
  | false=>
   simp only[Aa,Ac,K9];rw[e1];simp only[I,Ac];by_cases hu:u=S.g.S
   ·rw[aJ hu]
    simp only[Aa,Ac,Hy];exact same h2 o (.inr (.inr hu))
   ·rw[aK hu]
    have J:¬(z = -1\/S.Jr z=true\/u=S.g.S):=by
     rintro(y|y|y)
     ·exact j y
     ·rw[E]at y;cases y
     ·exact hu y
    unfold Mi.leave;rw[aM J];simp only[Aa,Ac,Hy];by_cases h0:u=0
    ·rw[aJ h0,aQ h0]
     simp only[Aa,a.Hf.Gd];refine(Bf1 (K:=K) A a.Gd f a.psz (by omega) (d:=e) (by omega) z M).Am ?_;rintro _ F ⟨c3,t,rfl,O,P⟩;obtain⟨a3,cH⟩:=a.Arq f O P c3;have B:Au H h F:=(Ext.to o).trans cH;have Q:=a.psz.nd;subst Q;refine .ret ⟨rfl,Sa.mono (H:=H) ⟨fun i b=>aN (s.lt i b) B.next,D,p,bl,ql,_,q,c,G,a3⟩ (fun _=>.inl) (Bi.lt s.lt B.next),B,t⟩
    ·rw[aK h0,aM h0]
     simp only[Aa,Xe,a.Hf.Dd];refine(Asz (K:=K) A (d:=e) (by omega) C a.drv f z).Am ?_;rintro _ F ⟨rfl,d3,c3,t⟩;have a3:=a.Bch f d3 c3;have cH:Au H h2 F:=c3.mono a.sub.1;have B:Au H h F:=(Ext.to o).trans cH;refine .ret ⟨rfl,Sa.mono (H:=Bi H h2 F) ⟨Bi.lt L c3.next,D,p,bl,ql,np,q,c,_,a3⟩ (fun i b=>?_) (Bi.lt s.lt B.next),B,t⟩;rcases b with b|b
     ·exact .inl b
     ·exact .inr ⟨bQ o.next b.1,b.2⟩
theorem A83(D:Nat)(g:Gm)(p bl n:Nat)(a b u e f i:Int):(((Abz D g p bl n a b u).set 265 (I e)).set 266 (I f)).set 267 (I i)=Abz D g p bl n e f i:=by
 unfold Abz;have j:([EV.ptr D 0]++gL g++Be).length=263:=by rw[aG,Pv];rfl
 rw[eK _ _ (by omega),j];show((([EV.ptr D 0]++gL g++Be)++[EV.ptr p 0,.slice bl 0 n n false,I e,I b,I u]).set 266 (I f)).set 267 (I i)=_;rw[eK _ _ (by omega),j];show(([EV.ptr D 0]++gL g++Be)++[EV.ptr p 0,.slice bl 0 n n false,I e,I f,I u]).set 267 (I i)=_;rw[eK _ _ (by omega),j];rfl
theorem Aud.A6e{D p bl ql np:Nat}{c:Nat->Nat}(a:Aud h m D p bl ql np q c S G H)(hb:HB h){j t v:Int}(g:h'.get m=some (.cells (Abz D S.g p bl (S.g.D*S.g.Z).toNat j t v) 132))(x:Au (fun i=>i=m) h h'):
 Aud h' m D p bl ql np q c { S with a:=j,b:=t,u:=v } G H:=by
 have e:=a.Hf.Hf;have k:∀i o,h.get i=some o->(∀l,o≠.cells l 132)->h'.get i=some o:=fun i o f A=>x.at hb f fun y=>by
  subst y;rw[e]at f;cases f;exact A _ rfl
 refine⟨⟨g,k _ _ a.Hf.Azx (by intros;simp)⟩,⟨a.Gd.pos,k _ _ a.Gd.Gd (by intros;simp),k _ _ a.Gd.row (by intros;simp),fun d hd=>k _ _ (a.Gd.que d hd) (by intros;simp),fun d hd=>k _ _ (a.Gd.chan d hd) (by intros;simp),a.Gd.inj⟩,a.psz,a.drv.chg x fun i B y=>?_,a.apart,a.sub⟩;subst y;exact a.apart.1 B
def Avr(disp:Nat->Option FT)(K n:Nat):Prop:=∀T:Kx,T.ev.length<=n->A67 disp K T
theorem Bbi:∀(l:List Lg) (D:Dv) (k:List Lg),(Azv l D k).ev.length<=l.length
 | [],_,_=>aD _
 | e::r,D,k=>by
  unfold Azv;split
  ·exact aD _
  ·have:=Bbi r (D.Si e) (k++[e])
   exact Nat.le_succ_of_le this
theorem Kx.Bix(S:Kx)(i:Int):(S.begin i).ev.length<=S.ev.length:=by
 unfold Kx.begin;split
 ·exact Bbi _ _ _
 ·exact aD _
theorem Mi.Bih(S:Mi)(z u:Int):(S.leave z u).1.dr.ev.length<=S.dr.ev.length:=by
 unfold Mi.leave;split
 ·exact aD _
 ·split
  ·exact aD _
  ·exact S.dr.Bix z
noncomputable def Mi.close(S:Mi):Mi × Int:=
 (((({ S with a:=-1,b:=-1,u:=0 }:Mi).leave S.a S.u).1.leave S.b S.u).1,if(({ S with a:=-1,b:=-1,u:=0 }:Mi).leave S.a S.u).2=0 then((({ S with a:=-1,b:=-1,u:=0 }:Mi).leave S.a S.u).1.leave S.b S.u).2 else(({ S with a:=-1,b:=-1,u:=0 }:Mi).leave S.a S.u).2)
theorem Azj(A:Bw disp)(P:10000<K)(hd:17<=d)(f:Avr disp K n)(Q:S.dr.ev.length<=n)(s:Sa h m S H)(hb:HB h)(W:Qu S.a)(C:Qu S.b):
 Ok (Ag TT disp K d false 240 [.ptr m 0] h) fun v h'=>v=I S.close.2/\Sa h' m S.close.1 (Bi H h h')/\Au H h h'/\HB h':=by
 obtain⟨e,rfl⟩:∃k,d=k+1:=⟨d-1,by omega⟩;rw[Ale A (by omega)];obtain⟨lt,D,p,bl,ql,np,q,c,G,a⟩:=s;have ml:=A0g D S.g p bl (S.g.D*S.g.Z).toNat S.a S.b S.u;simp only[Ac5,Aa,a.Hf.oa,a.Hf.ob,a.Hf.ou];refine Ok.A2i a.Hf.Hf hb rfl rfl (by omega) ?_;intro h1 X c1 E
 try simp only[Aa]
 refine Ok.A2i X E rfl rfl (by rw[bV];omega) ?_;intro h2 Y c2 F
 try simp only[Aa]
 refine Ok.A2i Y F rfl rfl (by rw[bV,bV];omega) ?_;intro T U c3 J;rw[show EV.int .i64 (-1)=I (-1)from rfl,show EV.int .i64 0=I 0 from rfl,A83]at U;have t:=(c1.trans c2).trans c3;have a3:=a.A6e hb U t;have cH:Au H h T:=t.mono fun i o=>by subst o;exact a.sub.2.1
 have s3:Sa T m { S with a:=-1,b:=-1,u:=0 } H:=⟨fun i o=>aN (lt i o) cH.next,D,p,bl,ql,np,q,c,G,a3⟩;unfold Mi.close;refine(Am5 (K:=K) (S:={ S with a:=-1,b:=-1,u:=0 }) A P (d:=e) (by omega) (f S.dr Q) s3 J W S.u).Am ?_;have j:=Mi.Bih { S with a:=-1,b:=-1,u:=0 } S.a S.u;generalize ({ S with a:=-1,b:=-1,u:=0 }:Mi).leave S.a S.u=r at j⊢;rintro _ h4 ⟨rfl,s4,c4,L⟩;refine(Am5 (K:=K) A P (d:=e) (by omega) (f _ (bQ j Q)) s4 L C S.u).Am ?_;rintro _ M ⟨rfl,s5,c5,x⟩;have B:Au H h h4:=cH.trans c4;have O:Au H h M:=B.then c5 fun i o hl=>by
  rcases o with y|y
  ·exact y
  ·have:=cH.next;omega
 have V:Sa M m (r.1.leave S.b S.u).1 (Bi H h M):=s5.mono (fun i o=>by
  rcases o with(y|y)|y
  ·exact .inl y
  ·have:=cH.next;have:=c5.next;exact .inr ⟨by omega,by omega⟩
  ·have:=B.next;exact .inr ⟨by omega,y.2⟩) (Bi.lt lt O.next)
 simp only[I,Ac];by_cases h0:r.2=0
 ·rw[aJ h0,aQ h0]
  simp only[Aa,P0];exact .ret ⟨rfl,V,O,x⟩
 ·rw[aK h0,aM h0]
  simp only[Aa,P0];exact .ret ⟨rfl,V,O,x⟩
def Mi.dropped(S:Mi)(z:Int):Nat->List Int:=if Eu S.g z<0 then S.ps else upd S.ps (Eu S.g z).toNat (Tj z (S.ps (Eu S.g z).toNat))
def Mi.mark(S:Mi)(z:Int):Mi:={ S with bad:=fun i=>if i=z.toNat then 1 else S.bad i,ps:=S.dropped z }
noncomputable def Mi.Bv(S:Mi)(z:Int):Mi × Int:=
 if Eu S.g z<0 then(S,13)else if S.Jr z=true then(S,16)else
 if ¬z=S.a/\¬z=S.b then(S.mark z,0)else((S.mark z).close.1,if(S.mark z).close.2=34 then 34 else 0)
theorem Aud.Bs6{D p bl ql np:Nat}{c:Nat->Nat}(a:Aud h m D p bl ql np q c S G H)(hb:HB h){b:Nat->Int}(g:h'.get bl=some (.cells ((List.range (S.g.D*S.g.Z).toNat).map fun z=>I (b z)) 3))(j:Au (fun i=>i=bl) h h'):
 Aud h' m D p bl ql np q c { S with bad:=b } G H:=by
 have e:=a.Hf.Azx;have k:∀i o,h.get i=some o->(∀l,o≠.cells l 3)->h'.get i=some o:=fun i o f t=>j.at hb f fun y=>by
  subst y;rw[e]at f;cases f;exact t _ rfl
 refine⟨⟨k _ _ a.Hf.Hf (by intros;simp),g⟩,⟨a.Gd.pos,k _ _ a.Gd.Gd (by intros;simp),k _ _ a.Gd.row (by intros;simp),fun d hd=>k _ _ (a.Gd.que d hd) (by intros;simp),fun d hd=>k _ _ (a.Gd.chan d hd) (by intros;simp),a.Gd.inj⟩,a.psz,a.drv.chg j fun i u y=>?_,a.apart,a.sub⟩;subst y;exact a.apart.2.1 u
theorem Bi.up{e h2:Ab}(a:h.next<=e.next)(b:e.next<=h2.next){i:Nat}(g:Bi H e h2 i):Bi H h h2 i:=by
 rcases g with y|y
 ·exact .inl y
 ·exact .inr ⟨by omega,y.2⟩
theorem Aqz(A:Bw disp)(hK:10000<K)(hd:18<=d)(C:Avr disp K n)(hn:S.dr.ev.length<=n)(s:Sa h m S H)(hb:HB h)(ha:Qu S.a)(Q:Qu S.b){z:Int}(T:Qu z):
 Ok (Ag TT disp K d false 197 [.ptr m 0,I z] h) fun v h'=>v=I (S.Bv z).2/\Sa h' m (S.Bv z).1 (Bi H h h')/\Au H h h'/\HB h':=by
 obtain⟨e,rfl⟩:∃k,d=k+1:=⟨d-1,by omega⟩;rw[Ac0 A (by omega)];obtain⟨lt,D,p,bl,ql,np,q,c,G,a⟩:=s;have s:Sa h m S H:=⟨lt,D,p,bl,ql,np,q,c,G,a⟩;have sm:=a.psz.sm;simp only[U4,Aa,a.Hf.Bc0];refine(Jh sm z T h).Am ?_;rintro _ h1 ⟨rfl,E⟩;have f:=E.hb hb;have s1:=s.ext hb E;unfold Mi.Bv;simp only[I,Ac];rcases Aew sm z with U|⟨d0,d1,d2,d3,d4⟩
 ·rw[U]
  simp only[show(-1:Int)<0 by decide,aB,Aa,bI];exact .ret ⟨rfl,s1.mono (fun _=>.inl) (Bi.lt lt E.next),Ext.to E,f⟩
 ·rw[aK (show ¬Eu S.g z<0 by omega),aM (show ¬Eu S.g z<0 by omega)]
  simp only[Aa];refine(Jg (K:=K) s1 f T).Am ?_;rintro _ h2 ⟨rfl,P⟩;have u:=P.hb f;have x:=E.trans P;cases af:S.Jr z with
  | true=>
   simp only[Aa,bI];exact .ret ⟨rfl,(s1.ext f P).mono (fun _=>.inl) (Bi.lt lt x.next),Ext.to x,u⟩
  | false=>
   simp only[Aa,aW,aY,Rv];obtain⟨ag,D,p,bl,ql,np,q,c,G,a⟩:=s1.ext f P;obtain⟨j,rfl⟩:∃j:Nat,z=j:=⟨z.toNat,by omega⟩;have hj:j<(S.g.D*S.g.Z).toNat:=by omega
   rw[a.Hf.Bt9,N5 hj,bF,bk];refine Ok.A2i a.Hf.Azx u rfl rfl (by rw[bZ,eP];exact hj) ?_;intro h3 X c3 F;have J:((List.range (S.g.D*S.g.Z).toNat).map fun z=>I (S.bad z)).set j (.int .i64 1)=(List.range (S.g.D*S.g.Z).toNat).map fun z=>I ((S.mark j).bad z):=by
    apply eE;intro i;rw[List.getElem?_set,bA,bA,bZ,eP];by_cases o:j=i
    ·subst o
     rw[aQ rfl,aQ hj,cQ hj];simp[Mi.mark,I]
    ·rw[aM o]
     rcases dL i (S.g.D*S.g.Z).toNat with hl|hg
     ·rw[cQ hl]
      have:¬i=j:=fun y=>o y.symm
      simp[Mi.mark,this]
     ·rw[cF (by rw[eP];exact hg)];rfl
   rw[J]at X;have a3:=a.Bs6 u X c3;have V:Au H h h3:=(Ext.to x).trans (c3.mono fun i o=>by subst o;exact a.sub.2.2.1)
   try simp only[Aa]
   rw[a3.Hf.Gd];refine(Bpw (K:=K) A (by omega) a3.Gd F a3.psz (d:=e) (by omega) j T).Am ?_;rintro _ h4 ⟨⟨er,rfl⟩,c4,L,P4,Z4⟩;obtain⟨a4,cH⟩:=a3.Arq F P4 Z4 c4;have a4:Aud h4 m D p bl ql np q c (S.mark j) G H:=a4;have M:Au H h h4:=V.trans cH;have Y:Sa h4 m (S.mark j) H:=⟨fun i o=>aN (lt i o) M.next,D,p,bl,ql,np,q,c,G,a4⟩
   try simp only[Aa]
   rw[a4.Hf.oa];have close:¬(¬(j:Int)=S.a/\¬(j:Int)=S.b)->Ok (Ky (Ag TT disp K e false) (Ag TT disp K e true) K (.ptr m 0) h4) fun v h'=>v=I (if ¬(j:Int)=S.a/\¬(j:Int)=S.b then(S.mark j,(0:Int))else((S.mark j).close.1,if(S.mark j).close.2=34 then 34 else 0)).2/\Sa h' m (if ¬(j:Int)=S.a/\¬(j:Int)=S.b then(S.mark j,(0:Int))else((S.mark j).close.1,if(S.mark j).close.2=34 then 34 else 0)).1 (Bi H h h')/\Au H h h'/\HB h':=by
    intro W;rw[aM W];simp only[Ky,dr];refine(Azj (K:=K) A hK (d:=e) (by omega) C (S:=S.mark j) hn Y L ha Q).Am ?_;rintro _ h5 ⟨rfl,s5,c5,O⟩;have B:=M.trans c5;have s6:=s5.mono (fun i o=>Bi.up M.next c5.next o) (Bi.lt lt B.next);simp only[I,Ac];by_cases t:(S.mark j).close.2=34
    ·rw[aJ t,aQ t]
     simp only[Aa];exact .ret ⟨rfl,s6,B,O⟩
    ·rw[aK t,aM t]
     simp only[Aa,Rb];exact .ret ⟨rfl,s6,B,O⟩
   simp only[I,Ac]at close⊢;rw[show(S.mark (j:Int)).a=S.a from rfl];by_cases e1:(j:Int)=S.a
   ·rw[show decide (¬(j:Int)=S.a)=false from aK fun y=>y e1]
    simp only[Aa,Ac,Kz];exact close fun y=>y.1 e1
   ·rw[show decide (¬(j:Int)=S.a)=true from aJ e1]
    simp only[Aa,Ac];rw[a4.Hf.ob];simp only[I,Ac,Kz,Aa];rw[show(S.mark (j:Int)).b=S.b from rfl];by_cases e2:(j:Int)=S.b
    ·rw[show decide (¬(j:Int)=S.b)=false from aK fun y=>y e2]
     simp only[Aa];exact close fun y=>y.2 e2
    ·rw[show decide (¬(j:Int)=S.b)=true from aJ e2]
     simp only[Aa];rw[aQ ⟨e1,e2⟩];exact .ret ⟨rfl,Y.mono (fun _=>.inl) (Bi.lt lt M.next),M,L⟩
def Awe(ps:Nat->List Int)(n:Nat):Option (Int × Int × (Nat->List Int)):=
 if Aad ps n=0 then none else
 some ((ps (Fe ps (-1) n).toNat).headD 0,(ps (Fe ps (Fe ps (-1) n) n).toNat).headD 0,
  upd (upd ps (Fe ps (-1) n).toNat (ps (Fe ps (-1) n).toNat).tail) (Fe ps (Fe ps (-1) n) n).toNat (ps (Fe ps (Fe ps (-1) n) n).toNat).tail)
noncomputable def Mi.ready(S:Mi):Mi × Int:=
 if ¬S.a = -1/\S.u<S.g.S then(S,0)else
 if ¬S.dr.flush.2=0 then({ S with dr:=S.dr.flush.1 },S.dr.flush.2)else
 match Awe S.ps S.g.D.toNat with
 | none=>({ S with dr:=S.dr.flush.1 },40)
 | some (x,y,e)=>({ S with dr:=S.dr.flush.1,ps:=e,a:=x,b:=y,u:=0 },0)
theorem Azz(A:Bw disp)(hK:10000<K)(hd:16<=d)(L:Avr disp K n)(hn:S.dr.ev.length<=n)(s:Sa h m S H)(hb:HB h):
 Ok (Ag TT disp K d false 232 [.ptr m 0] h) fun v h'=>v=I S.ready.2/\Sa h' m S.ready.1 (Bi H h h')/\Au H h h'/\HB h':=by
 obtain⟨e,rfl⟩:∃k,d=k+1:=⟨d-1,by omega⟩;rw[Alc A (by omega)];obtain⟨lt,D,p,bl,ql,np,q,c,G,a⟩:=s;have s:Sa h m S H:=⟨lt,D,p,bl,ql,np,q,c,G,a⟩;have V:=a.psz.nd;subst V;have es:Fy (.ptr m (1+2)) h=fun k=>k (I S.g.S):=by
  funext k;rw[Cz a.Hf.Hf rfl];rfl
 have two:¬(¬S.a = -1/\S.u<S.g.S)->Ok (Pk (Ag TT disp K e false) (Ag TT disp K e true) K (.ptr m 0) h) fun v h'=>v=I S.ready.2/\Sa h' m S.ready.1 (Bi H h h')/\Au H h h'/\HB h':=by
  intro W;unfold Mi.ready;rw[aM W];simp only[Pk,Aa,a.Hf.Dd];refine(Avs (K:=K) A (by omega) (d:=e) (by omega) (L _ hn) a.drv hb).Am ?_;rintro _ h2 ⟨rfl,d2,c2,j⟩;have C:=a.Bch hb d2 c2;have o:Au H h h2:=c2.mono a.sub.1;have E:=Bi.lt lt o.next
  simp only[I,Ac];by_cases O:S.dr.flush.2=0
  ·rw[aK (show ¬¬S.dr.flush.2=0 from fun y=>y O),aM (show ¬¬S.dr.flush.2=0 from fun y=>y O)]
   simp only[Aa,Y7,C.Hf.Gd];refine(Bpb (K:=K) C.Gd j C.psz (by omega)).Am ?_;rintro _ h3 ⟨c3,F,hh⟩;rcases hh with⟨p0,rfl,X⟩|⟨x,y,Y,vy,r,t,hp,f1,f2,hx,hy,aq,e1,e2,rfl,X,Z3⟩
   ·obtain⟨a3,J⟩:=C.Arq j X C.psz c3
    have P:Au H h h3:=o.grow J;have hg:Awe S.ps S.g.D.toNat=none:=by unfold Awe;rw[aQ p0]
    rw[hg];simp only[Aa,I,Ac];simp only[show ¬((15:Int)=0) by decide,aF,aB,Aa];refine .ret ⟨rfl,Sa.mono (H:=Bi H h h2) ⟨fun i f=>aN (E i f) c3.next,D,p,bl,ql,_,q,c,_,a3⟩ (fun i f=>Bi.le c3.next f) (Bi.lt lt P.next),P,F⟩
   ·obtain⟨a3,J⟩:=C.Arq j X Z3 c3
    have P:Au H h h3:=o.grow J;have hg:Awe S.ps S.g.D.toNat=some (Y,vy,upd (upd S.ps x r) y t):=by
     unfold Awe;have e1:S.ps x=Y::r:=e1;have e2:S.ps y=vy::t:=e2;have f1:Fe S.ps (-1) S.g.D.toNat=x:=f1;have f2:Fe S.ps x S.g.D.toNat=y:=f2;rw[aM hp,f1,f2];simp only[bG,e1,e2,List.headD_cons,List.tail_cons]
    rw[hg];simp only[Aa,I,Ac];simp only[aC,aA,Aa,Xg];have ml:=A0g D S.g p bl (S.g.D*S.g.Z).toNat S.a S.b S.u;refine Ok.A2i a3.Hf.Hf F rfl rfl (by show 265<(Abz D S.g p bl (S.g.D*S.g.Z).toNat S.a S.b S.u).length;omega) ?_;intro h4 g4 c4 ad
    try simp only[Aa]
    refine Ok.A2i g4 ad rfl rfl (by rw[bV];show 266<(Abz D S.g p bl (S.g.D*S.g.Z).toNat S.a S.b S.u).length;omega) ?_;intro h5 g5 c5 ae
    try simp only[Aa]
    refine Ok.A2i g5 ae rfl rfl (by rw[bV,bV];show 267<(Abz D S.g p bl (S.g.D*S.g.Z).toNat S.a S.b S.u).length;omega) ?_;intro h6 Q c6 af;have Q:h6.get m=some (.cells ((((Abz D S.g p bl (S.g.D*S.g.Z).toNat S.a S.b S.u).set 265 (I Y)).set 266 (I vy)).set 267 (I 0)) 132):=Q;rw[A83]at Q;have B:=(c4.trans c5).trans c6;have a6:=a3.A6e F Q B;have M:Au H h h6:=P.then (B.mono (T:=fun i=>i=m) fun i f=>f) fun i f _=>by subst f;exact a.sub.2.1
    exact .ret ⟨rfl,Sa.mono (H:=Bi H h h2) ⟨fun i f=>aN (E i f) (bQ c3.next B.next),D,p,bl,ql,_,q,c,_,a6⟩ (fun i f=>Bi.le (bQ c3.next B.next) f) (Bi.lt lt M.next),M,af⟩
  ·rw[aJ O,aQ O]
   simp only[Aa];exact .ret ⟨rfl,⟨E,D,p,bl,ql,_,q,c,_,C⟩,o,j⟩
 have done:¬S.a = -1/\S.u<S.g.S->Ok (some (.int .i64 0,h)) fun v h'=>v=I S.ready.2/\Sa h' m S.ready.1 (Bi H h h')/\Au H h h'/\HB h':=fun hy=>by
  unfold Mi.ready;rw[aQ hy];exact .ret ⟨rfl,s.mono (fun _=>.inl) (Bi.lt lt (aD _)),Au.refl _,hb⟩
 simp only[Ad2,Aa,a.Hf.oa,I,Ac];by_cases U:S.a = -1
 ·rw[aK (show ¬¬S.a = -1 from fun y=>y U)]
  simp only[Aa,K0,Ac];exact two fun y=>y.1 U
 ·rw[aJ U]
  simp only[Aa,Ac,a.Hf.ou,es,I];by_cases h2:S.u<S.g.S
  ·rw[aJ h2]
   simp only[K0,Aa];exact done ⟨U,h2⟩
  ·rw[aK h2]
   simp only[K0,Aa];exact two fun y=>h2 y.2
end Go.Ev
