import Derived.Test.YtadnemjjlacolaaGreatYa
import Derived.Test.YtadnemjjlacolaaGreatXb
import Derived.Test.YtadnemjjlacolaaGreatXa
set_option linter.all false
namespace Go.Ev
open Go.Proofs
set_option maxRecDepth 100000
variable {g:Gm}{h h':Aa}{K d m n:Nat}{G H:Nat->Prop}{ps:Nat->List Int}{q:Nat->Nat}{disp:Nat->Option FT}
def Sk(g:Gm)(z off:Int):Bool:=rtB g&&(wi z 0 (g.D*g.Z-1)&&wi off 0 (g.S-1))
theorem Ahs(hb:HB h)(z off:Int):Ok (Mc K (gV g) (I z) (I off) h) fun v h'=>v=.bool (Sk g z off)/\Ext h h':=by
 simp only[Mc,gV,Ab];obtain⟨y,C,i,o,_⟩:=nW h (.cells (gL g) 23);rw[C];have e:=i.hb hb;rw[Cw o rfl,Ak (show(gL g).length=6 from rfl)];simp only[Gx];rw[show EV.agg (gL g)=gV g from rfl];refine(Za (K:=K) g y).Ap ?_;rintro _ h2 ⟨rfl,f⟩;have k:=f.hb e;have t:=f.at e o;unfold Sk;cases E:rtB g with
 | false=>
  simp only[Ab,Ac,Pa,Pj,av];exact .ret ⟨rfl,i.trans f⟩
 | true=>
  have s:=Oj E;have:=s.d0;have:=s.d1;have:=s.z0;have:=s.z1;have:=s.s0;have:=s.s1;obtain⟨F,m1⟩:=Qi (a:=g.D) (b:=g.Z) (A:=8) (B:=64) (by omega) (by omega) (by omega) (by omega);simp only[Ab,Ac,bA];rw[Cw t rfl,Ak (show(gL g).length=6 from rfl)];simp only[Gx];rw[show EV.agg (gL g)=gV g from rfl,Oy s,As];have j:Ext h2 (h2.new (.cells (gL g) 23)):=Ar.new _ _;have u:=j.at k t;generalize h2.new (.cells (gL g) 23)=x at j u⊢;simp only[I,Ac];rw[Cq];have w1:=Aep (K:=K) z 0 (g.D*g.Z-1) x;simp only[I]at w1;rw[w1,As];cases wi z 0 (g.D*g.Z-1)with
  | false=>
   simp only[Ab,Ac,Pa,Pj,av];exact .ret ⟨rfl,(i.trans f).trans j⟩
  | true=>
   simp only[Ab,Ac,Pa];rw[Cs u rfl,show(gL g)[2]? = some (I g.S)from rfl];simp only[Gx,I,Ac];rw[Cq];have w2:=Aep (K:=K) off 0 (g.S-1) x;simp only[I]at w2;rw[w2,As];simp only[Pj,Ab,bA];exact .ret ⟨rfl,(i.trans f).trans j⟩
structure Me where
 state:Int
 Ah:Int
 Ay:Int
 off:Int
 seq:Int
 sum:Int
def Me.cells(m:Me):List EV:=[I m.state,I m.Ah,I m.Ay,I m.off,I m.seq,I m.sum]
def meB(g:Gm)(m:Me):Bool:=Sk g m.Ah m.off&&(Sk g m.Ay m.off&&(decide (¬Bo g m.Ah=Bo g m.Ay)&&(decide (1<=m.seq)&&(decide (m.seq<=281474976710655)&&(decide (0<=m.sum)&&decide (m.sum<=4294967295))))))
def Rng(z:Int):Prop:=-9223372036854775808<=z/\z<=9223372036854775807
theorem Apu{m:Me}(hb:HB h)(hs:m.state=1)(T:Rng m.Ah)(hm:Rng m.Ay):Ok (Ix K (.agg m.cells) (gV g) h) fun v h'=>v=.bool (meB g m)/\Ext h h':=by
 simp only[Ix,gV,Ab];have A:Ext h ((h.new (.cells m.cells 47)).new (.cells (gL g) 23)):=(Ar.new _ _).Df _;have b:((h.new (.cells m.cells 47)).new (.cells (gL g) 23)).get h.next=some (.cells m.cells 47):=by
  rw[Aw _ (aL _)];exact Ad _ _
 have i:((h.new (.cells m.cells 47)).new (.cells (gL g) 23)).get (h.next+1)=some (.cells (gL g) 23):=Ad _ _;rw[show(h.new (.cells m.cells 47)).next=h.next+1 from rfl];generalize (h.new (.cells m.cells 47)).new (.cells (gL g) 23)=V at A b i⊢;have f:=A.hb hb;have l0:m.cells[0]? = some (I 1):=by rw[<-hs];rfl
 have l1:m.cells[1]? = some (I m.Ah):=rfl;have L:m.cells[2]? = some (I m.Ay):=rfl;have M:m.cells[3]? = some (I m.off):=rfl;have O:m.cells[4]? = some (I m.seq):=rfl;have P:m.cells[5]? = some (I m.sum):=rfl;have B:(gL g).length=6:=rfl;have e:=f _ _ b;have k:=f _ _ i;rw[Cs b rfl,l0];simp only[Gx,I,Ac];simp only[show ¬((1:Int)=0) by decide,show ¬((1:Int)=2) by decide,aA,Ab,Kb,Ac,aB];simp only[Ab,Cm k,Au,Cw i rfl,Ak B,Cm e,Cs b rfl,l1,M,Gx];rw[show EV.agg (gL g)=gV g from rfl];refine Ok.bE (Ahs (K:=K) (Dg f) m.Ah m.off) (fun _ _ p=>p.2) ?_;rintro _ _ h2 ⟨rfl,_⟩ _ u;have o:=u.hb f;have b:=u.at f b;have i:=u.at f i;unfold meB;cases Q:Sk g m.Ah m.off with
 | false=>
  simp only[Ab,Ac,Ka,Kj,H3,Gf,Fc,Ea,av];exact .ret ⟨rfl,A.trans u⟩
 | true=>
 have F:rtB g=true:=by unfold Sk at Q;exact((aV _ _).mp Q).1
 have sm:=Oj F;simp only[Ab,Ac,Cm k,Au,Cw i rfl,Ak B,Cm e,Cs b rfl,L,M,Gx];rw[show EV.agg (gL g)=gV g from rfl];refine Ok.bE (Ahs (K:=K) (Dg o) m.Ay m.off) (fun _ _ p=>p.2) ?_;rintro _ _ W ⟨rfl,_⟩ _ C;have t:=C.hb o;have b:=C.at o b;have i:=C.at o i;have x:=(A.trans u).trans C;simp only[bA];cases Sk g m.Ay m.off with
 | false=>
  simp only[Ab,Ac,Ka,Kj,H3,Gf,Fc,Ea,av];exact .ret ⟨rfl,x⟩
 | true=>
 simp only[Ab,Ac,Ka,Cm k,Au,Cw i rfl,Ak B,Cm e,Cs b rfl,l1,Gx,bA];rw[show EV.agg (gL g)=gV g from rfl];refine Ok.bE (Js sm m.Ah T _) (fun _ _ p=>p.2) ?_;rintro _ _ h4 ⟨rfl,_⟩ _ E;have y:=E.hb t;have b:=E.at t b;have i:=E.at t i;simp only[Ab,Ac,Cm k,Au,Cw i rfl,Ak B,Cm e,Cs b rfl,L,Gx];rw[show EV.agg (gL g)=gV g from rfl];refine Ok.bE (Js sm m.Ay hm _) (fun _ _ p=>p.2) ?_;rintro _ _ X ⟨rfl,_⟩ _ J;have U:=J.hb y;have b:=J.at y b;have j:=(x.trans E).trans J;simp only[Ab,Ac,I,Kj];cases decide (¬Bo g m.Ah=Bo g m.Ay)with
 | false=>
  simp only[Ab,Ac,H3,Gf,Fc,Ea,av];exact .ret ⟨rfl,j⟩
 | true=>
 simp only[Ab,Ac,Au,Cm e,Cs b rfl,O,Gx,I,bA,H3];cases decide (1<=m.seq)with
 | false=>
  simp only[Ab,Ac,Gf,Fc,Ea,av];exact .ret ⟨rfl,j⟩
 | true=>
 simp only[Ab,Ac,Au,Cm e,Cs b rfl,O,Gx,I,bA,Gf];cases decide (m.seq<=281474976710655)with
 | false=>
  simp only[Ab,Ac,Fc,Ea,av];exact .ret ⟨rfl,j⟩
 | true=>
 simp only[Ab,Ac,Au,Cm e,Cs b rfl,P,Gx,I,bA,Fc];cases decide (0<=m.sum)with
 | false=>
  simp only[Ab,Ac,Ea,av];exact .ret ⟨rfl,j⟩
 | true=>
 simp only[Ab,Ac,Au,Cm e,Cs b rfl,P,Gx,I,bA,Ea];exact .ret ⟨rfl,j⟩
structure Mi where
 g:Gm
 dr:Jp
 ps:Nat->List Int
 bad:Nat->Int
 a:Int
 b:Int
 u:Int
structure Aq0(h:Aa)(m D p bl ql np:Nat)(q c:Nat->Nat)(S:Mi)(G H:Nat->Prop):Prop where
 H9:Aav h m D p bl (S.g.D*S.g.Z).toNat S.g S.a S.b S.u S.bad
 Gl:Et h p ql np q c S.g S.ps
 psz:Rs np S.g S.ps
 drv:F0 h D S.dr G
 apart:¬G m/\¬G bl/\¬G p/\¬G ql/\∀d,d<np->¬G (q d)/\¬G (c d)
 sub:(∀i,G i->H i)/\H m/\H bl/\H p/\H ql/\∀d,d<np->H (q d)/\H (c d)
structure Rk(h:Aa)(m:Nat)(S:Mi)(H:Nat->Prop):Prop where
 lt:∀i,H i->i<h.next
 Ow:∃D p bl ql np q c G,Aq0 h m D p bl ql np q c S G H
def Mi.Ex(S:Mi)(z:Int):Bool:=decide (0<=Bo S.g z)&&decide (S.bad z.toNat=1)
theorem No{S:Mi}(s:Rk h m S H)(hb:HB h){z:Int}(f:Rng z):
 Ok (Ej K (.ptr m 0) (I z) h) fun v h'=>v=.bool (S.Ex z)/\Ext h h':=by
 obtain⟨D,p,bl,ql,np,q,c,G,a⟩:=s.Ow;have sm:=a.psz.sm;simp only[Ej,Ab,a.H9.A8l];refine(Js sm z f h).Ap ?_;rintro _ k ⟨rfl,b⟩;have e:=a.H9.ext fun i o g=>b.at hb g
 unfold Mi.Ex;simp only[I,Ac];rcases I9 sm z with hd|⟨d0,d1,d2,d3,d4⟩
 ·rw[hd]
  simp only[show ¬((0:Int)<=-1) by decide,aA,Ab,Sb,av];exact .ret ⟨rfl,b⟩
 ·rw[aP d0]
  simp only[Ab,e.Bph];obtain⟨j,rfl⟩:∃j:Nat,z=j:=⟨z.toNat,by omega⟩;have hj:j<(S.g.D*S.g.Z).toNat:=by omega
  rw[Nw hj,Cs e.Awv rfl];rw[show((List.range (S.g.D*S.g.Z).toNat).map fun z=>I (S.bad z))[0+j*1]? = some (I (S.bad j)) by rw[bK,bW,bB,cJ hj];rfl];simp only[Gx,I,Ac,Sb,Ab,bA];exact .ret ⟨rfl,b⟩
variable {S:Mi}
section
section
variable{D p bl ql np:Nat}{c:Nat->Nat}(a:Aq0 h m D p bl ql np q c S G H)(hb:HB h)
include a hb
theorem Aq0.lts:m<h.next/\bl<h.next/\p<h.next/\ql<h.next/\∀d,d<np->q d<h.next/\c d<h.next:=
 ⟨hb _ _ a.H9.H9,hb _ _ a.H9.Awv,hb _ _ a.Gl.Gl,hb _ _ a.Gl.row,fun d hd=>⟨hb _ _ (a.Gl.que d hd),hb _ _ (a.Gl.chan d hd)⟩⟩
theorem Aq0.A81 {dr:Jp}(d:F0 h' D dr (Bf G h h'))(b:Ar G h h'):Aq0 h' m D p bl ql np q c { S with dr:=dr } (Bf G h h') (Bf H h h'):=by
 obtain⟨l1,v,x,A,k⟩:=a.lts hb;obtain⟨o,t,n3,n4,j⟩:=a.apart;have e:∀{i},¬G i->i<h.next->¬Bf G h h' i:=fun y l z=>by
  rcases z with z|z
  ·exact y z
  ·omega
 refine⟨⟨b.at hb a.H9.H9 o,b.at hb a.H9.Awv t⟩,?_,a.psz,d,⟨e o l1,e t v,e n3 x,e n4 A,fun d hd=>⟨e (j d hd).1 (k d hd).1,e (j d hd).2 (k d hd).2⟩⟩,?_⟩
 ·exact⟨a.Gl.pos,b.at hb a.Gl.Gl n3,b.at hb a.Gl.row n4,fun d hd=>b.at hb (a.Gl.que d hd) (j d hd).1,fun d hd=>b.at hb (a.Gl.chan d hd) (j d hd).2,a.Gl.inj⟩
 ·obtain⟨s1,s2,B,C,E,u⟩:=a.sub
  refine⟨fun i f=>?_,.inl s2,.inl B,.inl C,.inl E,fun d hd=>⟨.inl (u d hd).1,.inl (u d hd).2⟩⟩;rcases f with f|f
  ·exact .inl (s1 i f)
  ·exact .inr f
theorem Aq0.Ao3(P:Et h' p ql np q c S.g ps)(Z:Rs np S.g ps)(b:Ar (As3 np c) h h'):Aq0 h' m D p bl ql np q c { S with ps:=ps } G H/\Ar H h h':=by
 have e:∀i,G i->¬As3 np c i:=by
  rintro i f ⟨d,hd,rfl⟩;exact(a.apart.2.2.2.2 d hd).2 f
 refine⟨⟨⟨b.at hb a.H9.H9 (a.Gl.Bmn a.H9.H9 trivial),b.at hb a.H9.Awv (a.Gl.Bmn a.H9.Awv trivial)⟩,P,Z,a.drv.chg b e,a.apart,a.sub⟩,b.mono ?_⟩;rintro i ⟨d,hd,rfl⟩;exact(a.sub.2.2.2.2.2 d hd).2
end
theorem Rk.ext(s:Rk h m S H)(hb:HB h)(x:Ext h h'):Rk h' m S H:=by
 obtain⟨D,p,bl,ql,np,q,c,G,a⟩:=s.Ow;have g:∀i o,h.get i=some o->h'.get i=some o:=fun i o g=>x.at hb g
 exact⟨fun i b=>aK (s.lt i b) x.next,D,p,bl,ql,np,q,c,G,a.H9.ext g,a.Gl.ext g,a.psz,a.drv.ext x,a.apart,a.sub⟩
end
theorem Rk.mono{b:Nat->Prop}(s:Rk h m S H)(f:∀i,H i->b i)(l:∀i,b i->i<h.next):Rk h m S b:=by
 obtain⟨D,p,bl,ql,np,q,c,G,a⟩:=s.Ow;exact⟨l,D,p,bl,ql,np,q,c,G,a.H9,a.Gl,a.psz,a.drv,a.apart,⟨fun i e=>f _ (a.sub.1 i e),f _ a.sub.2.1,f _ a.sub.2.2.1,f _ a.sub.2.2.2.1,f _ a.sub.2.2.2.2.1,fun d hd=>⟨f _ (a.sub.2.2.2.2.2 d hd).1,f _ (a.sub.2.2.2.2.2 d hd).2⟩⟩⟩
noncomputable def Mi.leave(S:Mi)(z u:Int):Mi × Int:=
 if z = -1\/S.Ex z=true\/u=S.g.S then(S,0)else
 if u=0 then({ S with ps:=(U5 S.g S.g.D.toNat S.ps z).2 },(U5 S.g S.g.D.toNat S.ps z).1)else
 ({ S with dr:=(S.dr.finish z).1 },(S.dr.finish z).2)
theorem Ak5(A:Bv disp)(U:10000<K)(hd:16<=d)(C:A20 disp K S.dr)(s:Rk h m S H)(hb:HB h){z:Int}(O:Rng z)(u:Int):
 Ok (Ag TT disp K d false 193 [.ptr m 0,I z,I u] h) fun v h'=>v=I (S.leave z u).2/\Rk h' m (S.leave z u).1 (Bf H h h')/\Ar H h h'/\HB h':=by
 obtain⟨e,rfl⟩:∃k,d=k+1:=⟨d-1,by omega⟩;rw[Ai1 A (by omega)];have same:∀j,Ext h j->(z = -1\/S.Ex z=true\/u=S.g.S)->Ok (some (.int .i64 0,j)) fun v h'=>v=I (S.leave z u).2/\Rk h' m (S.leave z u).1 (Bf H h h')/\Ar H h h'/\HB h':=fun j x J=>by
  unfold Mi.leave;rw[aH J];obtain⟨_,D,p,bl,ql,np,q,c,G,a⟩:=s.ext hb x;refine .ret ⟨rfl,⟨Bf.lt s.lt x.next,D,p,bl,ql,np,q,c,G,⟨a.H9,a.Gl,a.psz,a.drv,a.apart,⟨fun i b=>.inl (a.sub.1 i b),.inl a.sub.2.1,.inl a.sub.2.2.1,.inl a.sub.2.2.2.1,.inl a.sub.2.2.2.2.1,fun d hd=>⟨.inl (a.sub.2.2.2.2.2 d hd).1,.inl (a.sub.2.2.2.2.2 d hd).2⟩⟩⟩⟩,Ext.to x,x.hb hb⟩
 simp only[Acv,I,Ac];by_cases j:z = -1
 ·rw[aP j]
  simp only[Ab,Ac,Kw,Hl];exact same h (Ar.refl _) (.inl j)
 ·rw[aO j]
  simp only[Ab];refine(No (K:=K) s hb O).Ap ?_;rintro _ h2 ⟨rfl,o⟩;have f:=o.hb hb;have s2:=s.ext hb o;obtain⟨L,D,p,bl,ql,np,q,c,G,a⟩:=s2;have e1:Ez (.ptr m (1+2)) h2=fun k=>k (I S.g.S):=by
   funext k;rw[Cs a.H9.H9 rfl];rfl
  cases E:S.Ex z with
  | true=>
   simp only[Ab,Ac,Kw,Hl];exact same h2 o (.inr (.inl E))
  | false=>
   simp only[Ab,Ac,Kw];rw[e1];simp only[I,Ac];by_cases hu:u=S.g.S
   ·rw[aP hu]
    simp only[Ab,Ac,Hl];exact same h2 o (.inr (.inr hu))
   ·rw[aO hu]
    have J:¬(z = -1\/S.Ex z=true\/u=S.g.S):=by
     rintro(y|y|y)
     ·exact j y
     ·rw[E]at y;cases y
     ·exact hu y
    unfold Mi.leave;rw[aF J];simp only[Ab,Ac,Hl];by_cases h0:u=0
    ·rw[aP h0,aH h0]
     simp only[Ab,a.H9.Gl];refine(Bbj (K:=K) A a.Gl f a.psz (by omega) (d:=e) (by omega) z O).Ap ?_;rintro _ F ⟨c3,t,rfl,P,Q⟩;obtain⟨M,cH⟩:=a.Ao3 f P Q c3;have B:Ar H h F:=(Ext.to o).trans cH;have T:=a.psz.nd;subst T;refine .ret ⟨rfl,Rk.mono (H:=H) ⟨fun i b=>aK (s.lt i b) B.next,D,p,bl,ql,_,q,c,G,M⟩ (fun _=>.inl) (Bf.lt s.lt B.next),B,t⟩
    ·rw[aO h0,aF h0]
     simp only[Ab,Xe,a.H9.Dr];refine(Ap3 (K:=K) A (d:=e) (by omega) C a.drv f z).Ap ?_;rintro _ F ⟨rfl,d3,c3,t⟩;have M:=a.A81 f d3 c3;have cH:Ar H h2 F:=c3.mono a.sub.1;have B:Ar H h F:=(Ext.to o).trans cH;refine .ret ⟨rfl,Rk.mono (H:=Bf H h2 F) ⟨Bf.lt L c3.next,D,p,bl,ql,np,q,c,_,M⟩ (fun i b=>?_) (Bf.lt s.lt B.next),B,t⟩;rcases b with b|b
     ·exact .inl b
     ·exact .inr ⟨bN o.next b.1,b.2⟩
theorem A7w(D:Nat)(g:Gm)(p bl n:Nat)(a b u e f i:Int):(((Aao D g p bl n a b u).set 265 (I e)).set 266 (I f)).set 267 (I i)=Aao D g p bl n e f i:=by
 unfold Aao;have j:([EV.ptr D 0]++gL g++Bi).length=263:=by rw[aG,Qx];rfl
 rw[eQ _ _ (by omega),j];show((([EV.ptr D 0]++gL g++Bi)++[EV.ptr p 0,.slice bl 0 n n false,I e,I b,I u]).set 266 (I f)).set 267 (I i)=_;rw[eQ _ _ (by omega),j];show(([EV.ptr D 0]++gL g++Bi)++[EV.ptr p 0,.slice bl 0 n n false,I e,I f,I u]).set 267 (I i)=_;rw[eQ _ _ (by omega),j];rfl
theorem Aq0.A2q{D p bl ql np:Nat}{c:Nat->Nat}(a:Aq0 h m D p bl ql np q c S G H)(hb:HB h){j t v:Int}(g:h'.get m=some (.cells (Aao D S.g p bl (S.g.D*S.g.Z).toNat j t v) 111))(x:Ar (fun i=>i=m) h h'):
 Aq0 h' m D p bl ql np q c { S with a:=j,b:=t,u:=v } G H:=by
 have e:=a.H9.H9;have k:∀i o,h.get i=some o->(∀l,o≠.cells l 111)->h'.get i=some o:=fun i o f A=>x.at hb f fun y=>by
  subst y;rw[e]at f;cases f;exact A _ rfl
 refine⟨⟨g,k _ _ a.H9.Awv (by intros;simp)⟩,⟨a.Gl.pos,k _ _ a.Gl.Gl (by intros;simp),k _ _ a.Gl.row (by intros;simp),fun d hd=>k _ _ (a.Gl.que d hd) (by intros;simp),fun d hd=>k _ _ (a.Gl.chan d hd) (by intros;simp),a.Gl.inj⟩,a.psz,a.drv.chg x fun i B y=>?_,a.apart,a.sub⟩;subst y;exact a.apart.1 B
def At2(disp:Nat->Option FT)(K n:Nat):Prop:=∀T:Jp,T.ev.length<=n->A20 disp K T
theorem A7x:∀(l:List Yb) (D:Dv) (k:List Yb),(Awu l D k).ev.length<=l.length
 | [],_,_=>aE _
 | e::r,D,k=>by
  unfold Awu;split
  ·exact aE _
  ·have:=A7x r (D.Se e) (k++[e])
   exact Nat.le_succ_of_le this
theorem Jp.Be6(S:Jp)(i:Int):(S.begin i).ev.length<=S.ev.length:=by
 unfold Jp.begin;split
 ·exact A7x _ _ _
 ·exact aE _
theorem Mi.Bc7(S:Mi)(z u:Int):(S.leave z u).1.dr.ev.length<=S.dr.ev.length:=by
 unfold Mi.leave;split
 ·exact aE _
 ·split
  ·exact aE _
  ·exact S.dr.Be6 z
noncomputable def Mi.close(S:Mi):Mi × Int:=
 (((({ S with a:=-1,b:=-1,u:=0 }:Mi).leave S.a S.u).1.leave S.b S.u).1,if(({ S with a:=-1,b:=-1,u:=0 }:Mi).leave S.a S.u).2=0 then((({ S with a:=-1,b:=-1,u:=0 }:Mi).leave S.a S.u).1.leave S.b S.u).2 else(({ S with a:=-1,b:=-1,u:=0 }:Mi).leave S.a S.u).2)
theorem Aw1(A:Bv disp)(P:10000<K)(hd:17<=d)(f:At2 disp K n)(Q:S.dr.ev.length<=n)(s:Rk h m S H)(hb:HB h)(X:Rng S.a)(C:Rng S.b):
 Ok (Ag TT disp K d false 163 [.ptr m 0] h) fun v h'=>v=I S.close.2/\Rk h' m S.close.1 (Bf H h h')/\Ar H h h'/\HB h':=by
 obtain⟨e,rfl⟩:∃k,d=k+1:=⟨d-1,by omega⟩;rw[Aic A (by omega)];obtain⟨lt,D,p,bl,ql,np,q,c,G,a⟩:=s;have ml:=Axm D S.g p bl (S.g.D*S.g.Z).toNat S.a S.b S.u;simp only[Aco,Ab,a.H9.oa,a.H9.ob,a.H9.ou];refine Ok.Ay6 a.H9.H9 hb rfl rfl (by omega) ?_;intro h1 Y c1 E
 try simp only[Ab]
 refine Ok.Ay6 Y E rfl rfl (by rw[bM];omega) ?_;intro h2 g2 c2 F
 try simp only[Ab]
 refine Ok.Ay6 g2 F rfl rfl (by rw[bM,bM];omega) ?_;intro T U c3 J;rw[show EV.int .i64 (-1)=I (-1)from rfl,show EV.int .i64 0=I 0 from rfl,A7w]at U;have t:=(c1.trans c2).trans c3;have a3:=a.A2q hb U t;have cH:Ar H h T:=t.mono fun i o=>by subst o;exact a.sub.2.1
 have s3:Rk T m { S with a:=-1,b:=-1,u:=0 } H:=⟨fun i o=>aK (lt i o) cH.next,D,p,bl,ql,np,q,c,G,a3⟩;unfold Mi.close;refine(Ak5 (K:=K) (S:={ S with a:=-1,b:=-1,u:=0 }) A P (d:=e) (by omega) (f S.dr Q) s3 J X S.u).Ap ?_;have j:=Mi.Bc7 { S with a:=-1,b:=-1,u:=0 } S.a S.u;generalize ({ S with a:=-1,b:=-1,u:=0 }:Mi).leave S.a S.u=r at j⊢;rintro _ h4 ⟨rfl,s4,c4,L⟩;refine(Ak5 (K:=K) A P (d:=e) (by omega) (f _ (bN j Q)) s4 L C S.u).Ap ?_;rintro _ M ⟨rfl,s5,V,x⟩;have B:Ar H h h4:=cH.trans c4;have O:Ar H h M:=B.then V fun i o hl=>by
  rcases o with y|y
  ·exact y
  ·have:=cH.next;omega
 have W:Rk M m (r.1.leave S.b S.u).1 (Bf H h M):=s5.mono (fun i o=>by
  rcases o with(y|y)|y
  ·exact .inl y
  ·have:=cH.next;have:=V.next;exact .inr ⟨by omega,by omega⟩
  ·have:=B.next;exact .inr ⟨by omega,y.2⟩) (Bf.lt lt O.next)
 simp only[I,Ac];by_cases h0:r.2=0
 ·rw[aP h0,aH h0]
  simp only[Ab,Pm];exact .ret ⟨rfl,W,O,x⟩
 ·rw[aO h0,aF h0]
  simp only[Ab,Pm];exact .ret ⟨rfl,W,O,x⟩
def Mi.dropped(S:Mi)(z:Int):Nat->List Int:=if Bo S.g z<0 then S.ps else upd S.ps (Bo S.g z).toNat (O1 z (S.ps (Bo S.g z).toNat))
def Mi.mark(S:Mi)(z:Int):Mi:={ S with bad:=fun i=>if i=z.toNat then 1 else S.bad i,ps:=S.dropped z }
noncomputable def Mi.Ce(S:Mi)(z:Int):Mi × Int:=
 if Bo S.g z<0 then(S,13)else if S.Ex z=true then(S,16)else
 if ¬z=S.a/\¬z=S.b then(S.mark z,0)else((S.mark z).close.1,if(S.mark z).close.2=34 then 34 else 0)
theorem Aq0.Box{D p bl ql np:Nat}{c:Nat->Nat}(a:Aq0 h m D p bl ql np q c S G H)(hb:HB h){b:Nat->Int}(g:h'.get bl=some (.cells ((List.range (S.g.D*S.g.Z).toNat).map fun z=>I (b z)) 3))(j:Ar (fun i=>i=bl) h h'):
 Aq0 h' m D p bl ql np q c { S with bad:=b } G H:=by
 have e:=a.H9.Awv;have k:∀i o,h.get i=some o->(∀l,o≠.cells l 3)->h'.get i=some o:=fun i o f t=>j.at hb f fun y=>by
  subst y;rw[e]at f;cases f;exact t _ rfl
 refine⟨⟨k _ _ a.H9.H9 (by intros;simp),g⟩,⟨a.Gl.pos,k _ _ a.Gl.Gl (by intros;simp),k _ _ a.Gl.row (by intros;simp),fun d hd=>k _ _ (a.Gl.que d hd) (by intros;simp),fun d hd=>k _ _ (a.Gl.chan d hd) (by intros;simp),a.Gl.inj⟩,a.psz,a.drv.chg j fun i u y=>?_,a.apart,a.sub⟩;subst y;exact a.apart.2.1 u
theorem Bf.up{e h2:Aa}(a:h.next<=e.next)(b:e.next<=h2.next){i:Nat}(g:Bf H e h2 i):Bf H h h2 i:=by
 rcases g with y|y
 ·exact .inl y
 ·exact .inr ⟨by omega,y.2⟩
theorem Anx(A:Bv disp)(hK:10000<K)(hd:18<=d)(C:At2 disp K n)(hn:S.dr.ev.length<=n)(s:Rk h m S H)(hb:HB h)(ha:Rng S.a)(U:Rng S.b){z:Int}(V:Rng z):
 Ok (Ag TT disp K d false 134 [.ptr m 0,I z] h) fun v h'=>v=I (S.Ce z).2/\Rk h' m (S.Ce z).1 (Bf H h h')/\Ar H h h'/\HB h':=by
 obtain⟨e,rfl⟩:∃k,d=k+1:=⟨d-1,by omega⟩;rw[Abg A (by omega)];obtain⟨lt,D,p,bl,ql,np,q,c,G,a⟩:=s;have s:Rk h m S H:=⟨lt,D,p,bl,ql,np,q,c,G,a⟩;have sm:=a.psz.sm;simp only[Ud,Ab,a.H9.A8l];refine(Js sm z V h).Ap ?_;rintro _ h1 ⟨rfl,E⟩;have f:=E.hb hb;have s1:=s.ext hb E;unfold Mi.Ce;simp only[I,Ac];rcases I9 sm z with W|⟨d0,d1,d2,d3,d4⟩
 ·rw[W]
  simp only[show(-1:Int)<0 by decide,aB,Ab,bI];exact .ret ⟨rfl,s1.mono (fun _=>.inl) (Bf.lt lt E.next),Ext.to E,f⟩
 ·rw[aO (show ¬Bo S.g z<0 by omega),aF (show ¬Bo S.g z<0 by omega)]
  simp only[Ab];refine(No (K:=K) s1 f V).Ap ?_;rintro _ h2 ⟨rfl,Q⟩;have u:=Q.hb f;have x:=E.trans Q;cases ai:S.Ex z with
  | true=>
   simp only[Ab,bI];exact .ret ⟨rfl,(s1.ext f Q).mono (fun _=>.inl) (Bf.lt lt x.next),Ext.to x,u⟩
  | false=>
   simp only[Ab,aX,ak,Q0];obtain⟨aj,D,p,bl,ql,np,q,c,G,a⟩:=s1.ext f Q;obtain⟨j,rfl⟩:∃j:Nat,z=j:=⟨z.toNat,by omega⟩;have hj:j<(S.g.D*S.g.Z).toNat:=by omega
   rw[a.H9.Bph,Nw hj,bK,bW];refine Ok.Ay6 a.H9.Awv u rfl rfl (by rw[bZ,eT];exact hj) ?_;intro h3 g3 c3 F;have J:((List.range (S.g.D*S.g.Z).toNat).map fun z=>I (S.bad z)).set j (.int .i64 1)=(List.range (S.g.D*S.g.Z).toNat).map fun z=>I ((S.mark j).bad z):=by
    apply dW;intro i;rw[dH,bB,bB,bZ,eT];by_cases o:j=i
    ·subst o
     rw[aH rfl,aH hj,cJ hj];simp[Mi.mark,I]
    ·rw[aF o]
     rcases cU i (S.g.D*S.g.Z).toNat with hl|hg
     ·rw[cJ hl]
      have:¬i=j:=fun y=>o y.symm
      simp[Mi.mark,this]
     ·rw[bh (by rw[eT];exact hg)];rfl
   rw[J]at g3;have T:=a.Box u g3 c3;have X:Ar H h h3:=(Ext.to x).trans (c3.mono fun i o=>by subst o;exact a.sub.2.2.1)
   try simp only[Ab]
   rw[T.H9.Gl];refine(Bm6 (K:=K) A (by omega) T.Gl F T.psz (d:=e) (by omega) j V).Ap ?_;rintro _ h4 ⟨⟨er,rfl⟩,c4,L,P4,Z4⟩;obtain⟨M,cH⟩:=T.Ao3 F P4 Z4 c4;have M:Aq0 h4 m D p bl ql np q c (S.mark j) G H:=M;have O:Ar H h h4:=X.trans cH;have s4:Rk h4 m (S.mark j) H:=⟨fun i o=>aK (lt i o) O.next,D,p,bl,ql,np,q,c,G,M⟩
   try simp only[Ab]
   rw[M.H9.oa];have close:¬(¬(j:Int)=S.a/\¬(j:Int)=S.b)->Ok (K2 (Ag TT disp K e false) (Ag TT disp K e true) K (.ptr m 0) h4) fun v h'=>v=I (if ¬(j:Int)=S.a/\¬(j:Int)=S.b then(S.mark j,(0:Int))else((S.mark j).close.1,if(S.mark j).close.2=34 then 34 else 0)).2/\Rk h' m (if ¬(j:Int)=S.a/\¬(j:Int)=S.b then(S.mark j,(0:Int))else((S.mark j).close.1,if(S.mark j).close.2=34 then 34 else 0)).1 (Bf H h h')/\Ar H h h'/\HB h':=by
    intro Y;rw[aF Y];simp only[K2,dr];refine(Aw1 (K:=K) A hK (d:=e) (by omega) C (S:=S.mark j) hn s4 L ha U).Ap ?_;rintro _ h5 ⟨rfl,s5,c5,P⟩;have B:=O.trans c5;have s6:=s5.mono (fun i o=>Bf.up O.next c5.next o) (Bf.lt lt B.next);simp only[I,Ac];by_cases t:(S.mark j).close.2=34
    ·rw[aP t,aH t]
     simp only[Ab];exact .ret ⟨rfl,s6,B,P⟩
    ·rw[aO t,aF t]
     simp only[Ab,Q8];exact .ret ⟨rfl,s6,B,P⟩
   simp only[I,Ac]at close⊢;rw[show(S.mark (j:Int)).a=S.a from rfl];by_cases e1:(j:Int)=S.a
   ·rw[show decide (¬(j:Int)=S.a)=false from aO fun y=>y e1]
    simp only[Ab,Ac,Kz];exact close fun y=>y.1 e1
   ·rw[show decide (¬(j:Int)=S.a)=true from aP e1]
    simp only[Ab,Ac];rw[M.H9.ob];simp only[I,Ac,Kz,Ab];rw[show(S.mark (j:Int)).b=S.b from rfl];by_cases e2:(j:Int)=S.b
    ·rw[show decide (¬(j:Int)=S.b)=false from aO fun y=>y e2]
     simp only[Ab];exact close fun y=>y.2 e2
    ·rw[show decide (¬(j:Int)=S.b)=true from aP e2]
     simp only[Ab];rw[aH ⟨e1,e2⟩];exact .ret ⟨rfl,s4.mono (fun _=>.inl) (Bf.lt lt O.next),O,L⟩
def Aer(ps:Nat->List Int)(n:Nat):Option (Int × Int × (Nat->List Int)):=
 if Fh ps n=0 then none else
 some ((ps (D6 ps (-1) n).toNat).headD 0,(ps (D6 ps (D6 ps (-1) n) n).toNat).headD 0,
  upd (upd ps (D6 ps (-1) n).toNat (ps (D6 ps (-1) n).toNat).tail) (D6 ps (D6 ps (-1) n) n).toNat (ps (D6 ps (D6 ps (-1) n) n).toNat).tail)
noncomputable def Mi.ready(S:Mi):Mi × Int:=
 if ¬S.a = -1/\S.u<S.g.S then(S,0)else
 if ¬S.dr.flush.2=0 then({ S with dr:=S.dr.flush.1 },S.dr.flush.2)else
 match Aer S.ps S.g.D.toNat with
 | none=>({ S with dr:=S.dr.flush.1 },40)
 | some (x,y,ps')=>({ S with dr:=S.dr.flush.1,ps:=ps',a:=x,b:=y,u:=0 },0)
theorem Awz(A:Bv disp)(hK:10000<K)(hd:16<=d)(L:At2 disp K n)(hn:S.dr.ev.length<=n)(s:Rk h m S H)(hb:HB h):
 Ok (Ag TT disp K d false 147 [.ptr m 0] h) fun v h'=>v=I S.ready.2/\Rk h' m S.ready.1 (Bf H h h')/\Ar H h h'/\HB h':=by
 obtain⟨e,rfl⟩:∃k,d=k+1:=⟨d-1,by omega⟩;rw[Aig A (by omega)];obtain⟨lt,D,p,bl,ql,np,q,c,G,a⟩:=s;have s:Rk h m S H:=⟨lt,D,p,bl,ql,np,q,c,G,a⟩;have W:=a.psz.nd;subst W;have es:Ez (.ptr m (1+2)) h=fun k=>k (I S.g.S):=by
  funext k;rw[Cs a.H9.H9 rfl];rfl
 have two:¬(¬S.a = -1/\S.u<S.g.S)->Ok (O9 (Ag TT disp K e false) (Ag TT disp K e true) K (.ptr m 0) h) fun v h'=>v=I S.ready.2/\Rk h' m S.ready.1 (Bf H h h')/\Ar H h h'/\HB h':=by
  intro X;unfold Mi.ready;rw[aF X];simp only[O9,Ab,a.H9.Dr];refine(At0 (K:=K) A (by omega) (d:=e) (by omega) (L _ hn) a.drv hb).Ap ?_;rintro _ h2 ⟨rfl,d2,c2,j⟩;have C:=a.A81 hb d2 c2;have o:Ar H h h2:=c2.mono a.sub.1;have E:=Bf.lt lt o.next
  simp only[I,Ac];by_cases O:S.dr.flush.2=0
  ·rw[aO (show ¬¬S.dr.flush.2=0 from fun y=>y O),aF (show ¬¬S.dr.flush.2=0 from fun y=>y O)]
   simp only[Ab,Ws,C.H9.Gl];refine(Bmz (K:=K) C.Gl j C.psz (by omega)).Ap ?_;rintro _ h3 ⟨c3,F,hh⟩;rcases hh with⟨p0,rfl,Y⟩|⟨x,y,vx,vy,r,t,hp,f1,f2,hx,hy,aq,e1,e2,rfl,Y,Z3⟩
   ·obtain⟨P,J⟩:=C.Ao3 j Y C.psz c3
    have Q:Ar H h h3:=o.grow J;have hg:Aer S.ps S.g.D.toNat=none:=by unfold Aer;rw[aH p0]
    rw[hg];simp only[Ab,I,Ac];simp only[show ¬((15:Int)=0) by decide,aN,aB,Ab];refine .ret ⟨rfl,Rk.mono (H:=Bf H h h2) ⟨fun i f=>aK (E i f) c3.next,D,p,bl,ql,_,q,c,_,P⟩ (fun i f=>Bf.le c3.next f) (Bf.lt lt Q.next),Q,F⟩
   ·obtain⟨P,J⟩:=C.Ao3 j Y Z3 c3
    have Q:Ar H h h3:=o.grow J;have hg:Aer S.ps S.g.D.toNat=some (vx,vy,upd (upd S.ps x r) y t):=by
     unfold Aer;have e1:S.ps x=vx::r:=e1;have e2:S.ps y=vy::t:=e2;have f1:D6 S.ps (-1) S.g.D.toNat=x:=f1;have f2:D6 S.ps x S.g.D.toNat=y:=f2;rw[aF hp,f1,f2];simp only[bD,e1,e2,List.headD_cons,List.tail_cons]
    rw[hg];simp only[Ab,I,Ac];simp only[aC,aA,Ab,Xa];have ml:=Axm D S.g p bl (S.g.D*S.g.Z).toNat S.a S.b S.u;refine Ok.Ay6 P.H9.H9 F rfl rfl (by show 265<(Aao D S.g p bl (S.g.D*S.g.Z).toNat S.a S.b S.u).length;omega) ?_;intro h4 g4 c4 ae
    try simp only[Ab]
    refine Ok.Ay6 g4 ae rfl rfl (by rw[bM];show 266<(Aao D S.g p bl (S.g.D*S.g.Z).toNat S.a S.b S.u).length;omega) ?_;intro h5 g5 c5 af
    try simp only[Ab]
    refine Ok.Ay6 g5 af rfl rfl (by rw[bM,bM];show 267<(Aao D S.g p bl (S.g.D*S.g.Z).toNat S.a S.b S.u).length;omega) ?_;intro h6 U c6 ag;have U:h6.get m=some (.cells ((((Aao D S.g p bl (S.g.D*S.g.Z).toNat S.a S.b S.u).set 265 (I vx)).set 266 (I vy)).set 267 (I 0)) 111):=U;rw[A7w]at U;have B:=(c4.trans c5).trans c6;have a6:=P.A2q F U B;have M:Ar H h h6:=Q.then (B.mono (T:=fun i=>i=m) fun i f=>f) fun i f _=>by subst f;exact a.sub.2.1
    exact .ret ⟨rfl,Rk.mono (H:=Bf H h h2) ⟨fun i f=>aK (E i f) (bN c3.next B.next),D,p,bl,ql,_,q,c,_,a6⟩ (fun i f=>Bf.le (bN c3.next B.next) f) (Bf.lt lt M.next),M,ag⟩
  ·rw[aP O,aH O]
   simp only[Ab];exact .ret ⟨rfl,⟨E,D,p,bl,ql,_,q,c,_,C⟩,o,j⟩
 have done:¬S.a = -1/\S.u<S.g.S->Ok (some (.int .i64 0,h)) fun v h'=>v=I S.ready.2/\Rk h' m S.ready.1 (Bf H h h')/\Ar H h h'/\HB h':=fun hy=>by
  unfold Mi.ready;rw[aH hy];exact .ret ⟨rfl,s.mono (fun _=>.inl) (Bf.lt lt (aE _)),Ar.refl _,hb⟩
 simp only[Ab7,Ab,a.H9.oa,I,Ac];by_cases V:S.a = -1
 ·rw[aO (show ¬¬S.a = -1 from fun y=>y V)]
  simp only[Ab,Kv,Ac];exact two fun y=>y.1 V
 ·rw[aP V]
  simp only[Ab,Ac,a.H9.ou,es,I];by_cases h2:S.u<S.g.S
  ·rw[aP h2]
   simp only[Kv,Ab];exact done ⟨V,h2⟩
  ·rw[aO h2]
   simp only[Kv,Ab];exact two fun y=>h2 y.2
end Go.Ev
