import Derived.Test.YtllikommdogjcaaGreatNa
import Derived.WalkKit
import Derived.ProofKit
import Derived.OpenShut
import Derived.Carry
import Derived.Deep.Slices
import Derived.Deep.Fields
set_option linter.all false
namespace Go.Ev
open Go.Proofs
set_option maxRecDepth 100000
variable {g:Gm}{h h' h0:Ab}{K b d i k n o q bo ml qx off:Nat}{f:Fr}{B:Cb}{y zn:Int}{Q:EV->Ab->Prop}{p:List Nat}{v sx:EV}{X Y:Co}{L:List (List Nat)}{mt:Int->Int}{Bt cur:Nat->Int}{F:Nat->Prop}{O:List Int}{disp:Nat->Option FT}
theorem US:TT.size 38=some 6/\TT.agg 38=some true:=⟨by kernel_rfl,by kernel_rfl⟩
def q6(l:List Nat):Me:=⟨Ps (l.take 1),Ps ((l.drop 1).take 2),Ps ((l.drop (1+2)).take 2),Ps ((l.drop (1+2+2)).take 1),Ps ((l.drop (1+2+2+1)).take 6),Ps ((l.drop (1+2+2+1+6)).take 4)⟩
theorem Bkl(s:Sm g){x:Me}(h:meR g x=true)(r:List Nat):q6 (jO x++r)=x:=by
 obtain⟨⟨a,b1⟩,⟨e,b2⟩,⟨j,b3⟩,⟨m,b4⟩,⟨t,u⟩,C,G⟩:=wY s h;unfold q6 jO;simp only[<-cV,bZ,q7 (De _ _),pT (De _ _)];rw[Ie (w:=1) a b1 c_,Ie (w:=2) e b2 c_,Ie (w:=2) j b3 c_,Ie (w:=1) m b4 c_,Ie (w:=6) t u c_,Ie (w:=4) C G c_]
theorem A7v(hK:10000<K){R:Nat}{l:List Nat}(d:Rd h R q off l)(hb:HB h)(hn:16<=l.length)(hl:∀b∈l,b<256):
 Ok (uN K (.ptr R 0) h) fun v h'=>v=.agg (q6 l).cells/\Rd h' R q (off+16) (l.drop 16)/\Av (fun i=>i=R) h h'/\HB h':=by
 have lR:R<h.next:=by obtain⟨s,g,_⟩:=d.Ph;exact hb _ _ g
 simp only[uN,Aa];obtain⟨h1,e_,x1,g1,n1⟩:=nW h (.cells [EV.int .i64 0,.int .i64 0,.int .i64 0,.int .i64 0,.int .i64 0,.int .i64 0] 38);rw[e_];have M:=x1.hb hb;refine(Ln (K:=K) (d.ext hb x1) M a_ (w:=1) a_ a_ a_ hl).Am ?_;rintro _ h2 ⟨rfl,d2,c2,ab⟩;generalize e1:Ps (l.take 1)=a;have cx:=c2.at M g1 (by show ¬_=R;omega);have t2:=c2.next
 rw[Ay (l:=[Nk .i64 a,I 0,I 0,I 0,I 0,I 0]) rfl];refine Ok.mk rfl rfl fun h3 x3 g3 _=>?_
 have ad:=x3.hb ab;have C:∀k,∀b∈l.drop k,b<256:=fun k b hb=>hl b (aH hb)
 refine(Ln (K:=K) (d2.ext ab x3) ad a_ (w:=2) a_ a_ (by rw[bA];omega) (C 1)).Am ?_;rintro _ h4 ⟨rfl,d4,c4,ae⟩;generalize e2:Ps ((l.drop 1).take 2)=j;rw[cV]at d4;refine(Ln (K:=K) d4 ae a_ (w:=2) a_ a_ (by rw[bA];omega) (C _)).Am ?_;rintro _ h5 ⟨rfl,d5,c5,af⟩;generalize e3:Ps ((l.drop (1+2)).take 2)=m;rw[cV]at d5;refine(Ln (K:=K) d5 af a_ (w:=1) a_ a_ (by rw[bA];omega) (C _)).Am ?_;rintro _ h6 ⟨rfl,d6,c6,ag⟩;rw[cV]at d6;generalize e4:Ps ((l.drop (1+2+2)).take 1)=u;have qR:=d.ne;have ah:=c6.at af (c5.at ae (c4.at ad g3 (by show ¬_=R;omega)) (by show ¬_=R;omega)) (by show ¬_=R;omega);have a7:Av (fun i=>i=R) h1 h6:=(((c2.trans (Ext.to x3)).trans c4).trans c5).trans c6;have w6:=ag _ _ ah;have put:∀{P:Ab} {H:Nat} {lx:List Nat} (o:D5),HB P->h2.next<P.next->Av (fun i=>i=R) h1 P->Rd P R q H lx->HB (P.put h2.next o)/\Av (fun i=>i=R) h1 (P.put h2.next o)/\Rd (P.put h2.next o) R q H lx:=fun o b w c d=>by
  have t:=c.next
  refine⟨b.put w _,c.Ar (.inr a_) w _,d.chg b (S:=fun i=>i=h2.next) (Av.Ar (S:=fun i=>i=h2.next) (Av.refl _) (.inl rfl) w _) (by show ¬_=_;omega) (by show ¬_=_;omega)⟩
 refine Ok.st [Nk .i64 a,Nk .i64 j,I 0,I 0,I 0,I 0] ah rfl rfl rfl ?_;obtain⟨T,ai,d7⟩:=put (.cells [Nk .i64 a,Nk .i64 j,I 0,I 0,I 0,I 0] 38) ag w6 a7 d6;have g7:(h6.put h2.next (.cells [Nk .i64 a,Nk .i64 j,I 0,I 0,I 0,I 0] 38)).get h2.next=_:=Ae _ _ _
 generalize h6.put h2.next (.cells [Nk .i64 a,Nk .i64 j,I 0,I 0,I 0,I 0] 38)=h7 at T ai d7 g7⊢
 refine Ok.st [Nk .i64 a,Nk .i64 j,Nk .i64 m,I 0,I 0,I 0] g7 rfl rfl rfl ?_;obtain⟨U,aj,d8⟩:=put (.cells [Nk .i64 a,Nk .i64 j,Nk .i64 m,I 0,I 0,I 0] 38) T (T _ _ g7) ai d7;have g8:(h7.put h2.next (.cells [Nk .i64 a,Nk .i64 j,Nk .i64 m,I 0,I 0,I 0] 38)).get h2.next=_:=Ae _ _ _
 generalize h7.put h2.next (.cells [Nk .i64 a,Nk .i64 j,Nk .i64 m,I 0,I 0,I 0] 38)=h8 at U aj d8 g8⊢
 refine Ok.st [Nk .i64 a,Nk .i64 j,Nk .i64 m,Nk .i64 u,I 0,I 0] g8 rfl rfl rfl ?_;obtain⟨V,al,d9⟩:=put (.cells [Nk .i64 a,Nk .i64 j,Nk .i64 m,Nk .i64 u,I 0,I 0] 38) U (U _ _ g8) aj d8;have g9:(h8.put h2.next (.cells [Nk .i64 a,Nk .i64 j,Nk .i64 m,Nk .i64 u,I 0,I 0] 38)).get h2.next=_:=Ae _ _ _
 generalize h8.put h2.next (.cells [Nk .i64 a,Nk .i64 j,Nk .i64 m,Nk .i64 u,I 0,I 0] 38)=h9 at V al d9 g9⊢
 refine(Ln (K:=K) d9 V a_ (w:=6) a_ a_ (by rw[bA];omega) (C _)).Am ?_;rintro _ hA ⟨rfl,dA,cA,ao⟩;rw[cV]at dA;generalize e5:Ps ((l.drop (1+2+2+1)).take 6)=J;refine(Ln (K:=K) dA ao a_ (w:=4) a_ a_ (by rw[bA];omega) (C _)).Am ?_;rintro _ hB ⟨rfl,dB,cB,aq⟩;rw[cV]at dB;generalize e6:Ps ((l.drop (1+2+2+1+6)).take 4)=a6;have gB:=cB.at ao (cA.at V g9 (by show ¬_=R;omega)) (by show ¬_=R;omega);have bb:=(al.trans cA).trans cB;refine Ok.st [Nk .i64 a,Nk .i64 j,Nk .i64 m,Nk .i64 u,Nk .i64 J,I 0] gB rfl rfl rfl ?_;obtain⟨W,au,dC⟩:=put (.cells [Nk .i64 a,Nk .i64 j,Nk .i64 m,Nk .i64 u,Nk .i64 J,I 0] 38) aq (aq _ _ gB) bb dB;have gC:(hB.put h2.next (.cells [Nk .i64 a,Nk .i64 j,Nk .i64 m,Nk .i64 u,Nk .i64 J,I 0] 38)).get h2.next=_:=Ae _ _ _
 generalize hB.put h2.next (.cells [Nk .i64 a,Nk .i64 j,Nk .i64 m,Nk .i64 u,Nk .i64 J,I 0] 38)=hC at W au dC gC⊢
 refine Ok.st [Nk .i64 a,Nk .i64 j,Nk .i64 m,Nk .i64 u,Nk .i64 J,Nk .i64 a6] gC rfl rfl rfl ?_;obtain⟨G,aa,dD⟩:=put (.cells [Nk .i64 a,Nk .i64 j,Nk .i64 m,Nk .i64 u,Nk .i64 J,Nk .i64 a6] 38) W (W _ _ gC) au dC;have gD:(hC.put h2.next (.cells [Nk .i64 a,Nk .i64 j,Nk .i64 m,Nk .i64 u,Nk .i64 J,Nk .i64 a6] 38)).get h2.next=_:=Ae _ _ _
 generalize hC.put h2.next (.cells [Nk .i64 a,Nk .i64 j,Nk .i64 m,Nk .i64 u,Nk .i64 J,Nk .i64 a6] 38)=hD at G aa dD gD⊢
 rw[Cp gD rfl (Ak (n:=6) rfl)];have gv:=aa.at M g1 (by show ¬_=R;omega);have lv:=G _ _ gv;refine Ok.nC gv rfl rfl ?_;rw[Rg (Ae _ _ _) US.1 US.2 rfl];refine .ret ⟨by unfold q6;rw[e1,e2,e3,e4,e5,e6];rfl,?_,?_,G.put lv _⟩
 ·have e:off+1+2+2+1+6+4=off+16:=a_
  rw[<-e];exact dD.chg G (S:=fun i=>i=h.next) (Av.Ar (S:=fun i=>i=h.next) (Av.refl _) (.inl rfl) lv _) (by show ¬_=_;omega) (by show ¬_=_;omega)
 ·exact((Ext.to x1:Av (fun i=>i=R) h h1).trans aa).Ar (.inr (aE _)) lv _
theorem Rd.UT{R:Nat}{l:List Nat}(d:Rd h R q off l):Rd h.lift R q off l:=by
 obtain⟨s,g,e,f⟩:=d.Ph;exact⟨⟨s,by rw[Bx];exact g,e,fun y=>⟨(f y).1,(f y).2.lift⟩⟩,d.ne⟩
theorem Rd.UU{R:Nat}{l:List Nat}(d:Rd h R q off l)(sm:iW h h'):Rd h' R q off l:=by
 obtain⟨s,g,e,f⟩:=d.Ph;exact⟨⟨s,by rw[sm.get];exact g,e,fun y=>⟨(f y).1,(f y).2.frame (sm.get _)⟩⟩,d.ne⟩
def pm(es:List Me)(n:Nat):List Me:=es.take n++List.replicate (es.length-n) (Me.nil 0)
theorem Bsp(es:List Me)(n:Nat):(pm es n).length=es.length:=by unfold pm;rw[aF,bW,bR];omega
theorem zJ {es:List Me}(h:es.length<=n):pm es n=es:=by
 unfold pm;rw[bS h,show es.length-n=0 from a_];simp
theorem Bss {es:List Me}(h:n<es.length):(pm es n).set n es[n]=pm es (n+1):=by
 unfold pm;rw[br h,show es.length-n=(es.length-(n+1))+1 from a_,eQ];have e:(es.take n).length=n:=by rw[bW];omega
 rw[eC _ _ a_,e,fU,List.set_cons_zero,bZ];rfl
theorem Br1 {f:Int}(a:1<=f):((2*(f.toNat-1)+k:Nat):Int)=2*(f-1)+k:=a_
theorem UW {B f:Int}{l:Nat}(e:l=B.toNat)(a:1<=f)(h:B<=2*(f-1)+k):l<=2*(f.toNat-1)+k:=a_
theorem Brf {B f:Int}{l:Nat}(e:l=B.toNat)(a:1<=f)(h:¬B<=2*(f-1)+k):2*(f.toNat-1)+k<l:=a_
theorem Bs2{l:List Nat}(h:16*(2-k)<=l.length)(a:k<2):16*(2-(k+1))<=(l.drop 16).length:=by rw[bA];omega
theorem Bdx(hK:10000<K)(sm:Sm g){R v2 v3 ll N:Nat}{x y z:EV}{E:List Me}(hE:∀x∈E,meR g x=true)(lE:E.length=g.B.toNat)(w:f.Wf)(fo:1<=f.off/\f.off<=4294967296)(nR:N<=R)(nl:b≠R/\ml≠R/\ll≠R/\v2≠R/\v3<R/\v2≠ml/\v2≠ll/\v3≠ml/\v3≠ll/\q≠ml/\q≠ll):
 ∀(n k off:Nat) (h:Ab) (l:List Nat),2-k<n->k<=2->HB h->N<=h.next->Oh h b ml ll g (pm E (2*(f.off.toNat-1)+k))->(∀i,k<=i->i<2->∃r,l.drop (16*(i-k))=jO (U7 E (2*(f.off-1)+i)).1++r)->h.get v2=some (.cells [x,y,z,.ptr b 0] 137)->h.get v3=some (.cells f.cells 153)->Rd h R q off l->16*(2-k)<=l.length->(∀b∈l,b<256) ->
 Ok (Yz K n (.ptr v2 0) (.ptr v3 0) (.ptr R 0) (I k) h) fun v h'=>v=I 0/\Oh h' b ml ll g (pm E (2*f.off.toNat))/\Av (fun i=>i=R\/i=ml\/i=ll) h h'/\HB h':=by
 intro n;induction n with
 | zero=>intro k off h l hn;omega
 | succ n ih=>
  intro k off h l hn hk hb hN m u g2 g3 d hl hu;have fe:((2*(f.off.toNat-1)+k:Nat):Int)=2*(f.off-1)+k:=Br1 fo.1;have M:g.B<=2*(f.off-1)+k->E.length<=2*(f.off.toNat-1)+k:=UW lE fo.1;have ag:g.B<=2*(f.off-1)+k->E.length<=2*f.off.toNat:=fun y=>by have:=UW lE fo.1 y;have:=fo.1;clear u m fe M;omega
  have ah:¬g.B<=2*(f.off-1)+k->2*(f.off.toNat-1)+k<E.length:=Brf lE fo.1;rw[Yz];simp only[I,Ac];by_cases C:k<2
  case neg=>
   have:decide ((k:Int)<2)=false:=by simp;omega
   simp only[this,Aa,uO];refine .ret ⟨rfl,?_,Av.refl _,hb⟩;rw[show 2*f.off.toNat=2*(f.off.toNat-1)+k from a_];exact m
  have n7:2-(k+1)<n:=a_
  have:decide ((k:Int)<2)=true:=by simp;omega
  simp only[this,Aa,OQ,As];refine Ok.bC (S:=fun i=>i=R) (A7v (K:=K) hK d.UT (C8 hb) a_ hu) (fun _ _ p=>p.2.2.1) ?_;rintro _ P h2 s' ⟨rfl,d1,c1,ai⟩ T J U;have eX:q6 l=(U7 E (2*(f.off-1)+k)).1:=by
   obtain⟨r,hr⟩:=u k (aE _) C;rw[fU,Nat.mul_zero,dE]at hr;rw[hr];exact Bkl sm (rF hE _) r
  have hR:=rF hE (2*(f.off-1)+(k:Int));rw[<-eX]at hR;have lR:R<h.next:=by obtain⟨s,g,_⟩:=d.Ph;exact hb _ _ g
  have mw:R<=P.mw:=c1.mw R (Nat.le_of_lt lR) (Nat.le_of_lt lR) fun i hi=>by subst hi;exact aE _
  have aj:=nl.2.2.2.2.1;have a:=T.hb ai;have d2:Rd h2 R q (off+16) (l.drop 16):=d1.UU T;have l3:=hb _ _ g3;have G:=J.at hb g2 nl.2.2.2.1;have H:=J.at hb g3 (Nat.ne_of_lt aj);have m2:=m.frame (J.get _ (hb _ _ m.map) nl.1) (J.get _ (hb _ _ m.row) nl.2.1) (J.get _ (hb _ _ m.live) nl.2.2.1);rw[Cq l3 (by
   rcases U with rfl|⟨w,rfl,rfl⟩
   ·kernel_rfl
   ·show Bc (Nat.ble (Nat.succ v3) P.mw) true false=true
    rw[aR a_];rfl),Aj H rfl (v:=I f.off) rfl]
  simp only[I,Ac];have w1:Dl .i64 (f.off-1)=f.off-1:=Ch;have w2:Dl .i64 (2*(f.off-1))=2*(f.off-1):=Ch;have w3:Dl .i64 (2*(f.off-1)+(k:Int))=2*(f.off-1)+(k:Int):=Ch;rw[w1,w2,w3]
  try simp only[Aa,As]
  have hq:Nat.beq h2.next v3=false:=by
   cases hx:Nat.beq h2.next v3 with
   | false=>rfl
   | true=>have:=aK hx;have:=a _ _ H;omega
  have al:qo 259 h2.next ⟨s'.bg,(Nat.shiftLeft 1 8,h2.next)::s'.nw,(Nat.shiftLeft 1 3,v3)::s'.Cy,s'.lou,s'.st⟩=true:=by
   have e:qo 259 h2.next ⟨s'.bg,(Nat.shiftLeft 1 8,h2.next)::s'.nw,(Nat.shiftLeft 1 3,v3)::s'.Cy,s'.lou,s'.st⟩=Bc (Bc (Bc (Nat.beq h2.next v3) false true) true false) true false:=by
    rcases U with rfl|⟨w,rfl,rfl⟩<;>kernel_rfl
   rw[e,hq];rfl
  rw[Hg al];refine Ok.mk rfl rfl fun h3 x3 g7 _=>?_
  have V:=x3.hb a;rw[Aj (x3.at a G) rfl (v:=.ptr b 0) rfl];have m3:=m2.ext fun i o p=>x3.at a p
  refine(Ke (K:=K) m3 V).Am ?_;rintro _ h4 ⟨rfl,x4,t⟩;have j:Ext h2 h4:=x3.trans x4;have c4:Av (fun i=>i=R\/i=ml\/i=ll) h h4:=(Av.mono J fun i y=>.inl y).trans (Ext.to j);have m4:=m2.ext fun i o p=>j.at a p
  simp only[gV,gL,Aa,I,Ac];by_cases W:g.B<=2*(f.off-1)+k
  ·rw[aO (show 2*(f.off-1)+(k:Int)≥g.B from W)]
   simp only[Aa,uO];refine .ret ⟨rfl,?_,c4,t⟩;rw[zJ (M W)]at m4;rw[zJ (ag W)];exact m4
  rw[aL (show ¬2*(f.off-1)+(k:Int)≥g.B from W)];simp only[Aa,OP];rw[Aj (j.at a G) rfl (v:=.ptr b 0) rfl,Cp (x4.at V g7) rfl (Ak (n:=6) rfl)];have lk:2*(f.off.toNat-1)+k<E.length:=ah W;have eG:(U7 E (2*(f.off-1)+(k:Int))).1=E[2*(f.off.toNat-1)+k]:=by
   rw[<-fe,oL (aD lk)]
  refine(wK (K:=K) sm m4 t (fun _=>r9 sm hR) _).Am ?_;have eS:mI g (pm E (2*(f.off.toNat-1)+k)) (2*(f.off-1)+(k:Int)) (q6 l)=(pm E (2*(f.off.toNat-1)+(k+1)),0):=by
   unfold mI;rw[aI (by rw[Bsp];omega),aI hR,<-fe,bD,eX,eG,Bss lk];rfl
  rw[eS];rintro _ h5 ⟨rfl,m5,c5,aq⟩;have aa:Av (fun i=>i=R\/i=ml\/i=ll) h h5:=c4.trans (c5.mono fun i y=>.inr y);simp only[I,Ac];simp only[aB,aA];simp only[Aa,OO,Ac];rw[Ch,show((k:Nat):Int)+1=((k+1:Nat):Int) from a_];obtain⟨a1,a2,a3,a4,a5,a6,a7,a8,a9,au,aw⟩:=nl;have ax:=c5.at t (j.at a G) (fun y=>y.elim a6 a7);have ay:=c5.at t (j.at a H) (fun y=>y.elim a8 a9);have d5:Rd h5 R q (off+16) (l.drop 16):=(d2.ext a j).chg t c5 (fun y=>y.elim au aw) (fun y=>y.elim (fun z=>a2 z.symm) fun z=>a3 z.symm);have t6:16*(2-(k+1))<=(l.drop 16).length:=Bs2 hl C;have u6:∀b∈l.drop 16,b<256:=fun b hb=>hu b (aH hb)
  have n6:N<=h5.next:=by have:=aa.next;omega
  refine Ok.mono (ih (k+1) (off+16) h5 (l.drop 16) n7 C aq n6 m5 (fun i hi h2=>?_) ax ay d5 t6 u6) ?_
  ·obtain⟨r,hr⟩:=u i a_ h2
   rw[cV,show 16+16*(i-(k+1))=16*(i-k) from a_];exact⟨r,hr⟩
  rintro v h6 ⟨rfl,m6,c6,az⟩;exact⟨rfl,m6,aa.trans c6,az⟩
theorem A6e(hK:10000<K)(sm:Sm g){ll:Nat}{E:List Me}(hE:∀x∈E,meR g x=true)(lE:E.length=g.B.toNat){x y z:EV}(m:Oh h b ml ll g (pm E (2*(f.off.toNat-1))))(hb:HB h)(w:f.Wf)(fo:1<=f.off/\f.off<=255)(P:f.body=iN (jD E f.off 2))(pl:x.plain=true/\y.plain=true/\z.plain=true):
 Ok (sM K (.agg [x,y,z,.ptr b 0]) (.agg f.cells) h) fun v h'=>v=I 0/\Oh h' b ml ll g (pm E (2*f.off.toNat))/\Av (fun i=>i=ml\/i=ll) h h'/\HB h':=by
 have fl:=Fr.Bh w;simp only[sM,Aa];rw[show(h.new (.cells [x,y,z,.ptr b 0] 137)).next=h.next+1 from rfl];have C:Ext h ((h.new (.cells [x,y,z,.ptr b 0] 137)).new (.cells f.cells 153)):=(Av.new _ _).Db _;have M:((h.new (.cells [x,y,z,.ptr b 0] 137)).new (.cells f.cells 153)).get h.next=some (.cells [x,y,z,.ptr b 0] 137):=by rw[Az _ (aN _)];exact Ad _ _
 have G:((h.new (.cells [x,y,z,.ptr b 0] 137)).new (.cells f.cells 153)).get (h.next+1)=some (.cells f.cells 153):=Ad _ _;have n1:((h.new (.cells [x,y,z,.ptr b 0] 137)).new (.cells f.cells 153)).next=h.next+2:=rfl
 generalize (h.new (.cells [x,y,z,.ptr b 0] 137)).new (.cells f.cells 153)=S at C M G n1⊢;have a:=C.hb hb;rw[show ∀k:EV->R,Ny 44 1 (.ptr (h.next+1) 5) (some (.int .i64 1)) none none k=k (.slice (h.next+1) 6 43 43 false)from fun k=>rfl];have bl:(f.body.drop 1).length=43:=by rw[bA,w.len]
 have bs:Bs S (.slice (h.next+1) 6 43 43 false) (h.next+1) 6 (f.body.drop 1):=by
  refine⟨43,false,_,f.cells,by rw[bl],by rw[bl];omega,G,rfl,by rw[bl,fl];omega,?_⟩;show((Be f.body).drop 1).take (f.body.drop 1).length=_;rw[bl];have e:(Be f.body).drop 1=Be (f.body.drop 1):=by unfold Be;rw[List.map_drop]
  rw[e,<-bl,<-Bi (f.body.drop 1),bY]
 refine(v_ (K:=K) bs a).Am ?_;rintro _ h2 ⟨R,q,rfl,d,H,t,lq⟩;have T:=hb _ _ m.map;have U:=hb _ _ m.row;have V:=hb _ _ m.live;have lR:R<h2.next:=by obtain⟨s,g,_⟩:=d.Ph;exact t _ _ g
 have qR:=d.ne;have u:Ext h h2:=C.trans H
 try simp only[Aa]
 have W:∀i,0<=i->i<2->∃r,(f.body.drop 1).drop (16*(i-0))=jO (U7 E (2*(f.off-1)+i)).1++r:=fun i _ hi=>by
  rw[P];unfold iN;have e:jD E f.off 2=Pc 1 f.off.toNat++jO (U7 E (2*(f.off-1)+(0:Nat))).1++jO (U7 E (2*(f.off-1)+(1:Nat))).1:=rfl;rw[e];simp only[bZ,pT (De _ _),gk];rcases(show i=0\/i=1 from a_)with rfl|rfl
  ·exact⟨_,rfl⟩
  ·rw[bc,pT (BT _)];exact⟨_,rfl⟩
 refine(Bdx hK sm (N:=h.next) hE lE w ⟨fo.1,a_⟩ a_ ⟨a_,a_,a_,a_,a_,a_,a_,a_,a_,a_,a_⟩ K 0 0 h2 _ a_ a_ t a_ (m.ext fun i o p=>u.at hb p) W (H.at a M) (H.at a G) d a_ fun b hb=>w.u8 b (aH hb)).mono ?_;rintro v h3 ⟨rfl,m3,c3,J⟩;refine⟨rfl,m3,(Ext.to u:Av (fun i=>i=ml\/i=ll) h h2).then c3 fun j hj ab=>?_,J⟩;rcases hj with rfl|hj
 ·omega
 ·exact hj
theorem Ok.Buo{s:DX}{call:Ab->R}{k:EV->Ab->DX->R}{P:EV->Ab->Prop}{S:Nat->Prop}(w0:Nat)(j:w0<=h.next)(hS:∀i,S i->w0<=i)(hb:Abk b s=true)(m:loose b s.nw = [])(hr:∀w,w0<=w->Tg b w s.Cy=true)(C:Ok (call h.lift) P)(he:∀v a,P v a->Av S h.lift a)
 (u:∀v a h2 s',P v a->iW a h2->Av S h h2->(s'=s.big i\/∃w,s'=s.iI i w/\w=a.mw)->Ok (k v h2 s') Q):Ok (Ev.Ly i b s h call k) Q:=by
 obtain⟨v,a,e,p⟩:=C;have x:=he v a p;have hf:Ic b s h=h.lift:=by unfold Ic;rw[m];rfl
 have hE:Ev.Ly i b s h call k=M0 i b s h a fun s h=>k v h s:=by
  show Bc (Abk b s) (Ev.Am (call (Ic b s h)) fun v h'=>M0 i b s h h' fun s h=>k v h s) none=_;rw[hb,Al,hf,e];rfl
 rw[hE];unfold M0;rw[m];have sm:∀w,iW a ⟨a.t,a.next,w⟩:=fun w=>⟨fun i=>by rw[jq,jq],rfl⟩
 have hg:∀w i,i<h.next->¬S i->(⟨a.t,a.next,w⟩:Ab).get i=h.get i:=fun w i G H=>by
  rw[(sm w).get,x.get i G H,Bx]
 cases hle:Nat.ble h.next a.mw with
 | true=>
  rw[Al];exact u v a _ _ p (sm _) ⟨hg _,x.next,fun w w1 _ _=>w1,fun y=>(sm _).hb (x.hb (C8 y))⟩ (.inl rfl)
 | false=>
  rw[Bk,hr _ (x.mw w0 j j hS),Al];refine u v a _ _ p (sm _) ⟨hg _,x.next,fun w w1 w2 w3=>?_,fun y=>(sm _).hb (x.hb (C8 y))⟩ (.inr ⟨_,rfl,rfl⟩);have:=x.mw w w2 w2 w3;show w<=Bc (Nat.ble h.mw a.mw) h.mw a.mw;rw[Br];split<;>assumption
theorem q8:TT.size 137=some 4/\TT.agg 137=some true:=⟨by kernel_rfl,by kernel_rfl⟩
theorem Bit(s:Sm g){z:Int}(z0:0<=z)(z1:z<=281474976710655){l:List Nat}(e:l=iN (jW g z)):
 Nk .i64 (Ps (l.take 6))=I z/\Nk .i64 (Ps ((l.drop 6).take 1))=I g.D/\Nk .i64 (Ps (((l.drop 6).drop 1).take 1))=I g.Z/\Nk .i64 (Ps ((((l.drop 6).drop 1).drop 1).take 1))=I g.S/\Nk .i64 (Ps (((((l.drop 6).drop 1).drop 1).drop 1).take 2))=I g.B/\Nk .i64 (Ps ((((((l.drop 6).drop 1).drop 1).drop 1).drop 2).take 1))=I g.P/\Nk .i64 (Ps (((((((l.drop 6).drop 1).drop 1).drop 1).drop 2).drop 1).take 1))=I g.O:=by
 have:=s.d0;have:=s.d1;have:=s.z0;have:=s.z1;have:=s.s0;have:=s.s1;have:=s.b0;have:=s.b1;have:=s.p0;have:=s.p1;have:=s.o0;have:=s.o1;subst e;unfold iN jW;simp only[bZ,q7 (De _ _),pT (De _ _)];exact⟨congrArg I (Ie (w:=6) z0 z1 c_),congrArg I (Ie (w:=1) (b:=255) a_ a_ c_),congrArg I (Ie (w:=1) (b:=255) a_ a_ c_),congrArg I (Ie (w:=1) (b:=255) a_ a_ c_),congrArg I (Ie (w:=2) (b:=65535) a_ a_ c_),congrArg I (Ie (w:=1) (b:=255) a_ a_ c_),congrArg I (Ie (w:=1) (b:=255) a_ a_ c_)⟩
theorem A3d(hK:10000<K)(w:f.Wf)(hb:HB h)(hr:rtB g=true){z:Int}(z0:0<=z)(z1:z<=281474976710655)(fb:f.body=iN (jW g z)):Ok (sL K (.agg f.cells) h) fun v h'=>∃p ml ll,v=.tuple [.agg [I f.seq,I f.Ao,I z,.ptr p 0],I 0]/\Oh h' p ml ll g (List.replicate g.B.toNat (Me.nil 0))/\h.next<=p/\h.next<=ml/\h.next<=ll/\Ext h h'/\HB h':=by
 obtain⟨s0,s1,s2,s3,s4,s5,s6⟩:=Bit (Jp hr) z0 z1 fb;have fl:=Fr.Bh w;simp only[sL,Aa];have x1:Ext h ((h.new (.cells f.cells 153)).new (.cells [.int .i64 0,.int .i64 0,.int .i64 0,.Cl] 137)):=(Av.new _ _).Db _;have g1:((h.new (.cells f.cells 153)).new (.cells [.int .i64 0,.int .i64 0,.int .i64 0,.Cl] 137)).get h.next=some (.cells f.cells 153):=by
  rw[Az _ (aN _)];exact Ad _ _
 have g2:((h.new (.cells f.cells 153)).new (.cells [.int .i64 0,.int .i64 0,.int .i64 0,.Cl] 137)).get (h.next+1)=some (.cells [.int .i64 0,.int .i64 0,.int .i64 0,.Cl] 137):=Ad _ _;have n1:((h.new (.cells f.cells 153)).new (.cells [.int .i64 0,.int .i64 0,.int .i64 0,.Cl] 137)).next=h.next+2:=rfl
 rw[show(h.new (.cells f.cells 153)).next=h.next+1 from rfl];generalize (h.new (.cells f.cells 153)).new (.cells [.int .i64 0,.int .i64 0,.int .i64 0,.Cl] 137)=h1 at x1 g1 g2 n1⊢;have V:=x1.hb hb;rw[show ∀k:EV->R,Ny 44 1 (.ptr h.next 5) none none none k=k (.slice h.next 5 44 44 false)from fun k=>rfl];have ul:(Be f.body).length=44:=by rw[Bi,w.len]
 have bs:Bs h1 (.slice h.next 5 44 44 false) h.next 5 f.body:=by
  refine⟨44,false,_,f.cells,by rw[w.len],by rw[w.len];omega,g1,rfl,by rw[w.len,fl];omega,?_⟩;show(Be f.body).take f.body.length=_;rw[w.len,<-ul,bY]
 refine(v_ (K:=K) bs V (by rw[w.len];omega) (by rw[w.len];omega)).Am ?_;rintro _ h5 ⟨C,q,rfl,d0,x5,W,du⟩;have aa:=x5.at V g1;have a5:=x5.at V g2;have ai:=W _ _ aa;have dw:h.next+1<C:=by have:=d0.ne;omega
 have a6:Ext h h5:=x1.trans x5;have hu:=w.u8;have hl:=w.len;simp only[Aa,As];rw[Hl ai,Aj aa rfl (v:=I f.seq) rfl]
 try simp only[Aa,As]
 rw[Hl ai,Aj aa rfl (v:=I f.Ao) rfl]
 try simp only[Aa,As]
 refine Ok.Buo (S:=fun i=>i=C) (h.next+1) (by have:=x5.next;omega) (fun i hi=>by have hi:i=C:=hi;omega) (by kernel_rfl) (by kernel_rfl) (fun _ hw=>by
  simp only[Tg];rw[aR (show Nat.succ h.next<=_ from hw)];rfl) (Ln (K:=K) (w:=6) d0.UT (C8 W) a_ c_ c_ a_ hu) (fun _ _ p=>p.2.2.1) ?_
 rintro _ dx h6 s' ⟨rfl,a7,_,ao⟩ sm c6 a8;have G:=sm.hb ao;have d1:=a7.UU sm;have x6:Ext h h6:=a6.then c6 fun j hj bb=>by
  have hj:j=C:=hj;omega
 have bf:=c6.at W a5 (by show ¬h.next+1=C;omega);have up:∀{a hc:Ab},Ext h a->Av (fun i=>i=C) a hc->Ext h hc:=fun x c=>x.then c fun j hj bb=>by
  have hj:j=C:=hj;omega
 have F1:∀{a hc:Ab} {i:Nat} {o:D5},Av (fun i=>i=C) a hc->HB a->a.get i=some o->i≠C->hc.get i=some o:=fun c hb g hi=>c.at hb g hi
 have lR:C<h6.next:=by obtain⟨_,g,_⟩:=d1.Ph;exact G _ _ g
 rw[s0];rw[Ay (l:=[I f.seq,I f.Ao,I z,.Cl]) rfl]
 try simp only[Aa,As]
 rw[Hg (by rcases a8 with rfl|⟨w,rfl,_⟩<;>kernel_rfl)];refine Ok.mk rfl rfl fun h7 x7 bj n7=>?_
 have ab:=x7.hb G;have d17:=d1.ext G x7;have bn:=x7.at G bf;have bp:Ext h h7:=x6.trans x7;have t:∀b∈f.body.drop 6,b<256:=fun b hb=>hu b (aH hb)
 refine(Ln (K:=K) (w:=1) d17 ab a_ c_ c_ (by simp only[bA];omega) t).Am ?_;rintro _ h8 ⟨rfl,d2,c8,ad⟩;have bt:=F1 c8 ab bn a_;have bu:=F1 c8 ab bj a_;have x8:=up bp c8;refine(Ln (K:=K) (w:=1) d2 ad a_ c_ c_ (by simp only[bA];omega) (fun b hb=>t b (aH hb))).Am ?_;rintro _ h9 ⟨rfl,d3,c9,ae⟩;have bx:=F1 c9 ad bt a_;have bz:=F1 c9 ad bu a_;have x9:=up x8 c9;refine(Ln (K:=K) (w:=1) d3 ae a_ c_ c_ (by simp only[bA];omega) (fun b hb=>t b (aH (aH hb)))).Am ?_;rintro _ a ⟨rfl,d4,ca,u⟩;have b6:=F1 ca ae bx a_;have aq:=F1 ca ae bz a_;have xa:=up x9 ca;rw[s1,s2,s3];rw[Ay (l:=[I g.D,I g.Z,I g.S,.int .i64 0,.int .i64 0,.int .i64 0]) rfl]
 try simp only[Aa]
 refine Ok.mk rfl rfl fun hB xb b7 _=>?_
 have H:=xb.hb u;have dD:=u _ _ aq;have ea:C<a.next:=by obtain⟨_,g,_⟩:=d4.Ph;exact u _ _ g
 have b8:=xb.at u b6;have cf:=xb.at u aq;have ch:=d4.ext u xb;have ct:Ext h hB:=xa.trans xb;refine(Ln (K:=K) (w:=2) ch H a_ c_ c_ (by simp only[bA];omega) (fun b hb=>t b (aH (aH (aH hb))))).Am ?_;rintro _ hc ⟨rfl,d5,cc,J⟩;have cv:=F1 cc H b8 a_;have cw:=F1 cc H cf a_;have cx:=F1 cc H b7 a_;have xc:=up ct cc;refine(Ln (K:=K) (w:=1) d5 J a_ c_ c_ (by simp only[bA];omega) (fun b hb=>t b (aH (aH (aH (aH hb)))))).Am ?_;rintro _ hd ⟨rfl,d6,cd,M⟩;have cy:=F1 cd J cv a_;have cz:=F1 cd J cw a_;have cA:=F1 cd J cx a_;have xd:=up xc cd;refine(Ln (K:=K) (w:=1) d6 M a_ c_ c_ (by simp only[bA];omega) (fun b hb=>t b (aH (aH (aH (aH (aH hb))))))).Am ?_;rintro _ he ⟨rfl,d7,ce,cB⟩;have cG:=F1 ce M cy a_;have cT:=F1 ce M cz a_;have aw:=F1 ce M cA a_;have xe:=up xd ce;rw[s4,s5,s6];have l6:=cB _ _ aw
 try simp only[Aa]
 refine Ok.hM aw rfl rfl (by show 3<6;decide) ?_
 try simp only[Aa]
 refine Ok.hM (Ae _ _ _) rfl rfl (by show 4<6;decide) ?_
 try simp only[Aa]
 refine Ok.hM (Ae _ _ _) rfl rfl (by show 5<6;decide) ?_;have xf:Ext h (((he.put a.next (.cells ([I g.D,I g.Z,I g.S,.int .i64 0,.int .i64 0,.int .i64 0].set 3 (I g.B)) 23)).put a.next (.cells (([I g.D,I g.Z,I g.S,.int .i64 0,.int .i64 0,.int .i64 0].set 3 (I g.B)).set 4 (I g.P)) 23)).put a.next (.cells ((([I g.D,I g.Z,I g.S,.int .i64 0,.int .i64 0,.int .i64 0].set 3 (I g.B)).set 4 (I g.P)).set 5 (I g.O)) 23)):=((xe.Ar (.inr (by have:=xa.next;omega)) l6 _).Ar (.inr (by have:=xa.next;omega)) l6 _).Ar (.inr (by have:=xa.next;omega)) l6 _;have ax:(((he.put a.next (.cells ([I g.D,I g.Z,I g.S,.int .i64 0,.int .i64 0,.int .i64 0].set 3 (I g.B)) 23)).put a.next (.cells (([I g.D,I g.Z,I g.S,.int .i64 0,.int .i64 0,.int .i64 0].set 3 (I g.B)).set 4 (I g.P)) 23)).put a.next (.cells ((([I g.D,I g.Z,I g.S,.int .i64 0,.int .i64 0,.int .i64 0].set 3 (I g.B)).set 4 (I g.P)).set 5 (I g.O)) 23)).get a.next=some (.cells (gL ⟨g.D,g.Z,g.S,g.B,g.P,g.O⟩) 23):=Ae _ _ _
 have T:(((he.put a.next (.cells ([I g.D,I g.Z,I g.S,.int .i64 0,.int .i64 0,.int .i64 0].set 3 (I g.B)) 23)).put a.next (.cells (([I g.D,I g.Z,I g.S,.int .i64 0,.int .i64 0,.int .i64 0].set 3 (I g.B)).set 4 (I g.P)) 23)).put a.next (.cells ((([I g.D,I g.Z,I g.S,.int .i64 0,.int .i64 0,.int .i64 0].set 3 (I g.B)).set 4 (I g.P)).set 5 (I g.O)) 23)).get (h.next+1)=some (.cells [.int .i64 0,.int .i64 0,.int .i64 0,.Cl] 137):=by
  rw[Af _,Af _,Af _];exact cG
 have U:(((he.put a.next (.cells ([I g.D,I g.Z,I g.S,.int .i64 0,.int .i64 0,.int .i64 0].set 3 (I g.B)) 23)).put a.next (.cells (([I g.D,I g.Z,I g.S,.int .i64 0,.int .i64 0,.int .i64 0].set 3 (I g.B)).set 4 (I g.P)) 23)).put a.next (.cells ((([I g.D,I g.Z,I g.S,.int .i64 0,.int .i64 0,.int .i64 0].set 3 (I g.B)).set 4 (I g.P)).set 5 (I g.O)) 23)).get h6.next=some (.cells [I f.seq,I f.Ao,I z,.Cl] 137):=by
  rw[Af _,Af _,Af _];exact cT
 generalize ((he.put a.next (.cells ([I g.D,I g.Z,I g.S,.int .i64 0,.int .i64 0,.int .i64 0].set 3 (I g.B)) 23)).put a.next (.cells (([I g.D,I g.Z,I g.S,.int .i64 0,.int .i64 0,.int .i64 0].set 3 (I g.B)).set 4 (I g.P)) 23)).put a.next (.cells ((([I g.D,I g.Z,I g.S,.int .i64 0,.int .i64 0,.int .i64 0].set 3 (I g.B)).set 4 (I g.P)).set 5 (I g.O)) 23)=hf at xf ax T U⊢
 have e:=xf.hb hb;rw[Cz ax rfl,Ak (n:=6) rfl];simp only[Aa];refine(FJ (K:=K) hr e).Am ?_;rintro _ hg ⟨b,ml,ll,rfl,m,xg,af,m1,m2,m3⟩;have l5:=af _ _ (xg.at e U);have l2:=af _ _ (xg.at e T);have lf:=xf.next
 try simp only[Aa]
 refine Ok.hM (xg.at e U) rfl rfl (by show 3<4;decide) ?_;rw[Cz (Ae _ _ _) rfl,Ak (n:=4) rfl];simp only[Aa];refine Ok.nC (by rw[Af _];exact xg.at e T) rfl rfl ?_;rw[Em (Ae _ _ _) q8.1 q8.2 rfl];have n6:=x6.next
 have lx:=xg.next
 have q5:=e _ _ U;have q2:=e _ _ T;have go:∀i,hf.next<=i->((hg.put h6.next (.cells ([I f.seq,I f.Ao,I z,.Cl].set 3 (.ptr b 0)) 137)).put (h.next+1) (.cells ([I f.seq,I f.Ao,I z,.Cl].set 3 (.ptr b 0)) 137)).get i=hg.get i:=fun i hi=>by
  rw[Af _ (show h.next+1≠i from a_),Af _ (show h6.next≠i from a_)]
 exact .ret ⟨b,ml,ll,rfl,m.frame (go b a_) (go ml a_) (go ll a_),a_,a_,a_,((xf.trans xg).Ar (.inr (by have:=x6.next;omega)) l5 _).Ar (.inr (Nat.le_succ _)) l2 _,(af.put l5 _).put l2 _⟩
section
theorem Bop(g:Gm)(z:Int):∀b∈jW g z,b<256:=by
 unfold jW;simp only[List.forall_mem_append];exact⟨I6 _ _,I6 _ _,I6 _ _,I6 _ _,I6 _ _,I6 _ _,I6 _ _⟩
theorem Bs6(x:Me):∀b∈jO x,b<256:=by
 unfold jO;simp only[List.forall_mem_append];exact⟨I6 _ _,I6 _ _,I6 _ _,I6 _ _,I6 _ _,I6 _ _⟩
theorem UX(es:List Me)(j:Int):∀i,∀b∈jD es j i,b<256
 | 0=>I6 _ _
 | i+1=>by
  show ∀b∈jD es j i++_,b<256;simp only[List.forall_mem_append];exact⟨UX es j i,Bs6 _⟩
theorem UY:∀l:List (IntKind × Int),Fa (l.map fun p=>.int p.1 p.2) (l.map fun p=>.int p.1 p.2)=some true
 | []=>rfl
 | (k,a)::l=>by
  rw[dT];unfold Fa;rw[UY l];have:jX (.int k a) (.int k a)=some true:=by
   show Bc (Nat.beq (Pq k) (Pq k)) (some (iV a a)) none=_;rw[cL,Al,DJ]
  rw[this]
theorem UZ:∀l:List Nat,shaped (List.replicate l.length 0) (Be l)=true
 | []=>rfl
 | a::l=>by
  show Bc (Nat.beq 0 0) (shaped (List.replicate l.length 0) (Be l)) false=true;rw[UZ l];rfl
def Fr.row(f:Fr):List (IntKind × Int):=[(.i64,f.kind),(.i64,f.Ai),(.i64,f.off),(.i64,f.Ao),(.i64,f.seq)]++f.body.map fun b=>(.u8,Int.ofNat b)
theorem Bpo(wf:f.Wf)(k:EV->R):K3 i_ (bin TT .neq 153) (.agg f.cells) (.agg f.cells) k=k (.bool false):=by
 have he:TT.eqs 153=some (List.replicate 49 0):=by kernel_rfl
 have rc:f.cells=f.row.map fun p=>.int p.1 p.2:=by
  unfold Fr.row Fr.cells Be;rw[cM,List.map_map];rfl
 have a:jN TT 153 (.agg f.cells) (.agg f.cells)=some true:=by
  show(match TT.eqs 153 with|some sh=>Bc (shaped sh f.cells) (Fa f.cells f.cells) none|none=>none)=_;rw[he];simp only;have s:shaped (List.replicate 49 0) f.cells=true:=by
   have:=UZ f.body;rw[wf.len]at this;exact this
  rw[s,Al,rc,UY]
 show oB k (match jN TT 153 (.agg f.cells) (.agg f.cells)with|some b=>some (EV.bool (Bc b false true))|none=>none)=_;rw[a];rfl
theorem q_{E:List Me}{x z:Int}(hR:iO x y z E=true)(n0:0<=zn)(n1:zn<=65535:=by omega)(a:i<=255:=by omega):(iU g E x y z zn i).Wf/\iv (iU g E x y z zn i)=true/\(iU g E x y z zn i).Ai=zn/\(iU g E x y z zn i).off=i/\(iU g E x y z zn i).Ao=y/\(iU g E x y z zn i).seq=x:=by
 obtain⟨⟨e,j⟩,⟨m,t⟩,z0,z1⟩:=w9 hR;unfold iU;split
 next h0=>
  subst h0;refine⟨⟨wW (by rw[wZ];omega),wX (Bop g z)⟩,?_,rfl,rfl,rfl,rfl⟩;simp only[iv,wi,aV,aS];omega
 ·refine⟨⟨wW (by rw[rG];omega),wX (UX E i 2)⟩,?_,rfl,rfl,rfl,rfl⟩
  simp only[iv,wi,aV,aS];omega
theorem U'(g:Gm)(E:List Me)(x y z zn:Int)(h:i<n):(Gl g E x y z zn n)[i]? = some (iU g E x y z zn i):=by
 unfold Gl;rw[bH,cX h];rfl
theorem zK{E:List Me}{x z:Int}(hR:iO x y z E=true)(n0:0<=zn)(n1:zn<=65535)(a:n<=200)(h:i<n):Ou ((Gl g E x y z zn n).map Fr.cells).flatten (i*49) 49=some (iU g E x y z zn i).cells:=by
 refine tY (n:=49) _ _ _ (fun w hw=>?_) (by rw[bH,U' g E x y z zn h];rfl);obtain⟨f,hf,rfl⟩:=dK.1 hw;unfold Gl at hf;obtain⟨j,hj,rfl⟩:=dK.1 hf;have:=cm.1 hj;exact Fr.Bh (q_ hR n0 n1).1
theorem sl1 {p:Nat}(h2:2<=p)(hp:p<=n)(k:EV->R):iK 49 (.slice q 0 n n true) (some (.int .i64 1)) (some (.int .i64 (p:Int))) none k=k (.slice q 49 (p-1) (n-1) true):=by
 have:je (.slice q 0 n n true) 49 (some (.int .i64 1)) (some (.int .i64 (p:Int))) none=some (.slice q 49 (p-1) (n-1) true):=by
  have b1:bound (some (.int .i64 (p:Int))) n n=some p:=by
   show Bc (Nat.ble p n) (some p) none=_;rw[aR hp,Al]
  have b2:bound (some (.int .i64 1)) p 0=some 1:=by
   show Bc (Nat.ble 1 p) (some 1) none=_;rw[aR a_,Al]
  unfold je;simp only[b1,b2];rw[Al,show Nat.beq 1 0=false from rfl,Bk,aR (show Nat.succ 1<=n from a_),Al];rfl
 unfold iK;rw[this];rfl
section
variable (A:Bu disp)(hK:10000<K){s:EV}{v2 v4:Nat}{E:List Me}{x z:Int}{N:Nat}(hr:rtB g=true)(eN:(N:Int)=g.parts)(hE:∀x∈E,meR g x=true)(lE:E.length=g.B.toNat)(hR:iO x y z E=true)(n0:0<=zn)(n1:zn<g.D*g.Z)(l2:h0.next<=v2)(l4:h0.next<=v4)(zL:v2≠v4)
include hr eN hR n0 n1 l2 l4 zL
theorem Boh(c r:Ah){C:EV}{M:Nat}:∀(n i:Nat) (h:Ab),N-i<n->i<=N->Ext h0 h->HB h->h.get v2=some (.cells [.int .i64 0,.int .i64 0,.int .i64 0,.Cl] 137)->h.get v4=some (.cells [I x,I y,I z,.ptr b 0] 137)->Ce h s q 153 49 N ((Gl g E x y z zn N).map Fr.cells).flatten->jr h C M 153 49 N ((Gl g E x y z zn N).map Fr.cells).flatten ->
 Ok (T1 c r K n s (.ptr v2 0) (.ptr v4 0) C (I N) (I i) h) fun v h'=>v=.tuple [.agg [I x,I y,I z,.ptr b 0],I 0]/\Ext h0 h'/\HB h':=by
 have sm:=Jp hr;have:=sm.b0;have:=sm.b1;have P:N<=200:=by unfold Gm.parts at eN;omega
 have V:=sm.Uw;intro n;induction n with
 | zero=>intro i h S;omega
 | succ n T=>
  intro i h S W G hb t H row e;rw[T1];simp only[I,Ac];by_cases j:i<N
  case neg=>
   have:decide ((i:Int)<(N:Int))=false:=by simp;omega
   simp only[this,Aa,xX];rw[Cz H rfl,Ak (n:=4) rfl];simp only[Aa];have lv:=hb _ _ t;refine Ok.nC t rfl rfl ?_;rw[Em (Ae _ _ _) q8.1 q8.2 rfl];exact .ret ⟨rfl,G.Ar (.inr l2) lv _,hb.put lv _⟩
  have:decide ((i:Int)<(N:Int))=true:=by simp;omega
  simp only[this,Aa,OS];have e1:=zK (g:=g) hR n0 a_ P j;have w1:=(q_ (g:=g) hR n0 a_ (show i<=255 from a_)).1;have ix:=e.ix j;simp only[I]at ix;rw[ix,e.lu a_ e1]
  try simp only[Aa]
  refine Ok.mk (by simp) (Fr.Bh w1) fun J m U _=>?_
  have u:=m.hb hb;rw[Cp U rfl (Ak (Fr.Bh w1))];have a:=row.frame (h':=J) fun y=>m.get _ (hb _ _ (row.block y)) id
  rw[a.ix j,Cp (a.block a_) rfl e1,Bpo w1];simp only[Aa,OR,Ac];rw[Ch,show((i:Nat):Int)+1=((i+1:Nat):Int) from a_];exact T (i+1) J a_ a_ (G.trans m) u (m.at hb t) (m.at hb H) a (e.frame fun y=>m.get _ (e.lt hb y) id)
include A hK
theorem Boj(hd:8<=d){ll:Nat}(m:Oh h b ml ll g E)(P:Ext h0 h)(hb:HB h)(S:h.get v2=some (.cells [.int .i64 0,.int .i64 0,.int .i64 0,.Cl] 137))(j:h.get v4=some (.cells [I x,I y,I z,.ptr b 0] 137))(row:Ce h s q 153 49 N ((Gl g E x y z zn N).map Fr.cells).flatten):
 Ok (uP (Ag TT disp K d false) (Ag TT disp K d true) K s (.ptr v2 0) (.ptr v4 0) h) fun v h'=>v=.tuple [.agg [I x,I y,I z,.ptr b 0],I 0]/\Ext h0 h'/\HB h':=by
 have sm:=Jp hr;have:=sm.b0;have:=sm.b1;have t:1<=N/\N<=200:=by unfold Gm.parts at eN;omega
 have lq:=hb _ _ (row.block t.1);have u:=hb _ _ j;have e2:((Gl g E x y z zn N).map Fr.cells).flatten[0*49+1]? = some (I zn):=by
  obtain⟨k,rfl⟩:=d_ N;unfold Gl;rw[List.range_succ_eq_map];rfl
 simp only[uP,Aa,As];rw[Hl u,Cz j rfl,Ak (n:=4) rfl]
 try simp only[Aa,As]
 rw[show ∀k:EV->R,iF 49 s (.int .i64 0) k=k (.ptr q (0*49))from fun k=>row.ix t.1 .i64 k]
 try simp only[Aa,As]
 rw[Hl lq,Aj (row.block t.1) rfl (v:=I zn) e2]
 try simp only[Aa,As]
 refine Ok.bE (CG A (K:=K) (d:=d) a_ a_ hr (m.frame (Bx _ _) (Bx _ _) (Bx _ _)) (C8 hb) hR n0 n1) (fun _ _ p=>by obtain⟨_,_,_,_,_,_,_,_,w,_⟩:=p;exact w) ?_;rintro _ T h2 ⟨W,q9,M,rfl,C,_,J,_,_,U⟩ G a;have H:=a.hb hb;have V:M.length=N:=by rw[J,rK];omega
 rw[V]at C;rw[J,show g.parts.toNat=N from a_]at C;have e:=C.frame (h':=h2) fun _=>G.get _
 simp only[Aa,I,Ac];simp only[aB,aA];simp only[Aa,OT];rw[e.Ip];exact Boh hr eN hR n0 n1 l2 l4 zL _ _ K 0 h2 a_ a_ (P.trans a) H (a.at hb S) (a.at hb j) (row.frame fun y=>a.get _ (hb _ _ (row.block y)) id) e
include hE lE
theorem Bn1(hd:8<=d){ll:Nat}(lm:h0.next<=ml/\h0.next<=ll):∀(n i:Nat) (h:Ab),(N-1)-i<n->i<=N-1->Oh h b ml ll g (pm E (2*i))->Ext h0 h->HB h->h.get v2=some (.cells [.int .i64 0,.int .i64 0,.int .i64 0,.Cl] 137)->h.get v4=some (.cells [I x,I y,I z,.ptr b 0] 137)->Ce h s q 153 49 N ((Gl g E x y z zn N).map Fr.cells).flatten ->
 Ok (Ra (Ag TT disp K d false) (Ag TT disp K d true) K n s (.ptr v2 0) (.ptr v4 0) (.slice q 49 (N-1) (N-1) true) (I (N-1:Nat)) (I i) h) fun v h'=>v=.tuple [.agg [I x,I y,I z,.ptr b 0],I 0]/\Ext h0 h'/\HB h':=by
 have sm:=Jp hr;have:=sm.b0;have:=sm.b1;have eP:=eN;unfold Gm.parts at eP;have pb:2<=N/\N<=200:=a_
 have zb:=sm.Uw;intro n;induction n with
 | zero=>intro i h hn;omega
 | succ n ih=>
  intro i h hn hi m x0 hb g2 g4 row;rw[Ra];simp only[I,Ac];by_cases H:i<N-1
  case neg=>
   have:decide ((i:Int)<((N-1:Nat):Int))=false:=by simp;omega
   simp only[this,Aa];rw[zJ a_]at m;exact Boj A hK hr eN hR n0 n1 l2 l4 zL hd m x0 hb g2 g4 row
  have:decide ((i:Int)<((N-1:Nat):Int))=true:=by simp;omega
  simp only[this,Aa,OW];have e1:=zK (g:=g) hR n0 a_ pb.2 (show i+1<N from a_);rw[show(i+1)*49=49+i*49 from a_]at e1;obtain⟨w1,_,_,fo,_⟩:=q_ (g:=g) hR n0 a_ (show i+1<=255 from a_);have fb:(iU g E x y z zn (i+1)).body=iN (jD E ((i+1:Nat):Int) 2):=by unfold iU;rw[aG (Nat.succ_ne_zero i)]
  rw[On H,Cp (row.block a_) rfl e1];generalize iU g E x y z zn (i+1)=f at w1 fo fb⊢
  try simp only[Aa]
  refine Ok.mk (by simp) (Fr.Bh w1) fun h3 G g3 _=>?_
  have a:=G.hb hb;have M:=x0.trans G;have u:=G.at hb g2;have e:=G.at hb g4;have C:=m.ext fun i o q=>G.at hb q
  have t:=row.frame (h':=h3) fun y=>G.get _ (hb _ _ (row.block y)) id
  rw[Aj g3 rfl (v:=I f.off) rfl];simp only[I,Ac];rw[Ch];have az:Eu (.tuple []) false=false/\Eu (.tuple []) true=false:=⟨rfl,rfl⟩;rw[aL (show ¬¬f.off=(i:Int)+1 from fun y=>y a_)];simp only[Aa,Bz];rw[Cz e rfl,Ak (n:=4) rfl]
  try simp only[Aa]
  rw[Cp g3 rfl (Ak (Fr.Bh w1))];have ft:f.off.toNat-1=i:=a_
  refine(A6e (K:=K) hK sm hE lE (f:=f) (by rw[ft];exact C) a w1 a_ (by rw[fo];exact fb) (x:=I x) (y:=I y) (z:=I z) ⟨rfl,rfl,rfl⟩).Am ?_;rintro _ h4 ⟨rfl,m4,c4,P⟩;rw[show f.off.toNat=i+1 from a_]at m4;have S:=Ba u C.row (by simp);have T:=Ba u C.live (by simp);have U:=Ba e C.row (by simp);have V:=Ba e C.live (by simp);have W:=c4.at a u fun y=>y.elim S T
  have aa:=c4.at a e fun y=>y.elim U V
  have gq:=t.block (show 0<N from a_);have ad:=Ba gq C.row (by simp);have ae:=Ba gq C.live (by simp);have J:=t.frame (h':=h4) fun y=>c4.get _ (a _ _ gq) fun y=>y.elim ad ae
  have af:Ext h0 h4:=M.then c4 fun j hj H=>by rcases hj with rfl|rfl<;>omega
  simp only[I,Ac];simp only[aB,aA];simp only[Aa,Bz,OV,OU,Ac];rw[Ch,show((i:Nat):Int)+1=((i+1:Nat):Int) from a_];exact ih (i+1) h4 a_ a_ m4 af P W aa J
end
theorem A64(A:Bu disp)(hK:10000<K)(hd:9<=d){s:EV}{E:List Me}{x z:Int}{N:Nat}(hr:rtB g=true)(eN:(N:Int)=g.parts)(hE:∀x∈E,meR g x=true)(lE:E.length=g.B.toNat)(hR:iO x y z E=true)(n0:0<=zn)(n1:zn<g.D*g.Z)(row:Ce h s q 153 49 N ((Gl g E x y z zn N).map Fr.cells).flatten)(hb:HB h):
 Ok (Ag TT disp K d false 180 [s] h) fun v h'=>∃p,v=.tuple [.agg [I x,I y,I z,.ptr p 0],I 0]/\Ext h h'/\HB h':=by
 have H:=Jp hr;have:=H.b0;have:=H.b1;have eP:=eN;unfold Gm.parts at eP;have pb:2<=N/\N<=200:=a_
 have zb:=H.Uw;obtain⟨⟨x0,x1⟩,⟨y0,y1⟩,z0,z1⟩:=w9 hR;obtain⟨e,rfl⟩:=d_ d;rw[A3u A a_];simp only[O',Aa];obtain⟨h1,e_,w1,g1,a0⟩:=nW h (.cells [.int .i64 0,.int .i64 0,.int .i64 0,.Cl] 137);rw[e_];have J:=w1.hb hb;have W:=row.frame (h':=h1) fun y=>w1.get _ (hb _ _ (row.block y)) id
 rw[W.Ip];simp only[I,Ac];have:decide ((N:Int)=0)=false:=aL a_;simp only[this,Aa,OZ];have t:0<N:=a_
 have e1:=zK (g:=g) hR n0 a_ pb.2 t;rw[show ∀k:EV->R,iF 49 s (.int .i64 0) k=k (.ptr q (0*49))from fun k=>W.ix t .i64 k,Cp (W.block t) rfl e1];have fw:=(q_ (g:=g) hR n0 a_ (show 0<=255 from a_)).1;refine(A3d hK fw J hr (z:=z) a_ a_ rfl).Am ?_;rintro _ h2 ⟨b,ml,ll,rfl,m,lb,a2,a3,x2,M⟩;rw[show(iU g E x y z zn 0).seq=x from rfl,show(iU g E x y z zn 0).Ao=y from rfl];have a4:Eu (.tuple []) false=false/\Eu (.tuple []) true=false:=⟨rfl,rfl⟩;simp only[Aa];refine Ok.mk rfl rfl fun h3 x3 g3 _=>?_
 have a:=x3.hb M;have P:Ext h1 h3:=x2.trans x3;have ae:Ext h h3:=w1.trans P;have af:=P.at J g1;have t2:=x2.next
 simp only[I,Ac];simp only[aB,aA];simp only[Aa,Bz];rw[Aj g3 rfl (v:=.ptr b 0) rfl];have m3:=m.ext fun i o q=>x3.at M q
 refine(Ke (K:=K) m3 a).Am ?_;rintro _ h4 ⟨rfl,x4,a6⟩;rw[uc H,Au];have j:Ext h3 (h4.new (.cells (gL g) 23)):=x4.Db _;generalize h4.new (.cells (gL g) 23)=h5 at j⊢;have S:=j.hb a;have T:=ae.trans j;have U:=row.frame (h':=h5) fun y=>T.get _ (hb _ _ (row.block y)) id
 rw[U.Ip];simp only[I,Ac];rw[aL (show ¬g.parts>(N:Int) from a_)];simp only[Aa,Bz,OY,OX];rw[Aj (j.at a g3) rfl (v:=.ptr b 0) rfl];have m5:=m3.ext fun i o q=>j.at a q
 refine(Ke (K:=K) m5 S).Am ?_;rintro _ h6 ⟨rfl,x6,a9⟩;rw[uc H,Au];have C:Ext h5 (h6.new (.cells (gL g) 23)):=x6.Db _;generalize h6.new (.cells (gL g) 23)=h7 at C⊢;have ah:=C.hb S;have V:=T.trans C;have G:=j.trans C;have u:=row.frame (h':=h7) fun y=>V.get _ (hb _ _ (row.block y)) id
 rw[<-eN,u.slice t];unfold I;rw[sl1 a_ a_];rw[show ∀k:EV->R,Ip (.slice q 49 (N-1) (N-1) true) k=k (I (N-1:Nat))from fun _=>rfl];have p0:pm E (2*0)=List.replicate g.B.toNat (Me.nil 0):=by unfold pm;rw[lE];rfl
 have:=Bn1 A hK (h0:=h) (s:=s) (q:=q) (v2:=h.next) (v4:=h2.next) hr eN hE lE hR n0 n1 (aE _) a_ a_ (d:=e) (ml:=ml) (ll:=ll) a_ ⟨a_,a_⟩ K 0 h7 a_ a_ (by rw[p0];exact m3.ext fun i o q=>Ext.at G a q) V ah (Ext.at G a af) (Ext.at G a g3) u;rw[u.slice t]at this;refine this.mono ?_;rintro v h' ⟨rfl,xx,ai⟩;exact⟨b,rfl,xx,ai⟩
end
section
section
variable (A:Bu disp)(hK:10000<K){E:List Me}{x z:Int}{N:Nat}(hr:rtB g=true)(eN:(N:Int)=g.parts)(hE:∀x∈E,meR g x=true)(lE:E.length=g.B.toNat)(hR:iO x y z E=true)(n0:0<=zn)(n1:zn<g.D*g.Z)
include A hK hr eN hE lE hR n0 n1
theorem Bay(hd:9<=d){v3 v6:Nat}{X:List (List EV)}(eX:X=(Gl g E x y z zn N).map fun f=>Be (Jh f))(l3:h0.next<=v3)(l6:h0.next<=v6)(rx:Ce h0 sx qx 29 64 N X.flatten)(U:HB h0):
 ∀(n i:Nat) (h:Ab) (s:EV) (q:Nat),N-i<n->i<=N->Ext h0 h->HB h->h.get v3=some (.cells Bf 68)->h.get v6=some (.cells [.int .i64 0,.int .i64 0,.int .i64 0,.Cl] 137)->Ce h s q 153 49 i ((Gl g E x y z zn i).map Fr.cells).flatten->(0<i->h0.next<=q/\q≠v3/\q≠v6) ->
 Ok (Vi (Ag TT disp K d false) (Ag TT disp K d true) K n (I zn) (.ptr v3 0) (.ptr v6 0) s sx (I N) (I i) h) fun v h'=>∃p,v=.tuple [.agg [I x,I y,I z,.ptr p 0],I 0]/\Ext h0 h'/\HB h':=by
 have sm:=Jp hr;have:=sm.b0;have:=sm.b1;have eP:=eN;unfold Gm.parts at eP;have pb:2<=N/\N<=200:=a_
 have zb:=sm.Uw;intro n;induction n with
 | zero=>intro i h s q hn;omega
 | succ n ih=>
  intro i h s q ax hi T hb V W row hq;rw[Vi];simp only[I,Ac];by_cases C:i<N
  case neg=>
   obtain rfl:i=N:=a_
   have:decide ((i:Int)<(i:Int))=false:=by simp
   simp only[this,Aa,xW,dr];refine Ok.Am (A64 A hK (d:=d) a_ hr eN hE lE hR n0 n1 row hb) ?_;rintro _ h2 ⟨p,rfl,u,e⟩;have G:=u.at hb W;have H:=e _ _ G;simp only[Aa];refine Ok.nC G rfl rfl ?_;rw[Em (Ae _ _ _) q8.1 q8.2 rfl];exact .ret ⟨p,rfl,(T.trans u).Ar (.inr l6) H _,e.put H _⟩
  have e3:decide ((i:Int)<(N:Int))=true:=by simp;omega
  simp only[e3,Aa,OM];have J:=rx.frame (h':=h) fun y=>T.get _ (U _ _ (rx.block y)) id
  obtain⟨m,fr,fz,fo,_⟩:=q_ (g:=g) hR n0 a_ (show i<=255 from a_);have e1:Ou X.flatten (i*64) 64=some (Be (Jh (iU g E x y z zn i))):=by
   rw[eX];refine tY (n:=64) _ _ _ (fun w hw=>?_) (by rw[bH,U' g E x y z zn C];rfl);obtain⟨f,hf,rfl⟩:=dK.1 hw;unfold Gl at hf;obtain⟨j,hj,rfl⟩:=dK.1 hf;have:=cm.1 hj;rw[Bi,nH (q_ hR n0).1]
  have eS:Gl g E x y z zn (i+1)=Gl g E x y z zn i++[iU g E x y z zn i]:=CB g E x y z zn i;generalize iU g E x y z zn i=f at m fr fz fo e1 eS;have el:=nH m;rw[J.ix C,Cp (J.block a_) rfl e1]
  try simp only[Aa]
  refine Ok.mk (by simp) (by rw[Bi,el]) fun h2 u g2 _=>?_
  have e:=u.hb hb;rw[Cz (u.at hb V) rfl,Ak (n:=256) Qe];simp only[Aa];rw[Cp g2 rfl (Ak (by rw[Bi,el]))];have fa:=U_ (K:=K) el (xh m) e hK zn i;have ea:=v9 m fr;rw[fz,fo]at ea;rw[ea]at fa;simp only[I]at fa;refine fa.Am ?_;rintro _ h3 ⟨rfl,_,x3⟩;have ad:=x3.hb e;simp only[Aa];refine Ok.mk (by simp) (Fr.Bh m) fun h4 x4 g4 _=>?_
  have M:=x4.hb ad;have t:Ext h h4:=(u.trans x3).trans x4;have P:=row.frame (h':=h4) fun y=>t.get _ (hb _ _ (row.block y)) id
  simp only[Ac];simp only[aB,aA];simp only[Aa,OL];rw[Cp g4 rfl (Ak (Fr.Bh m))];refine Ml P M rfl (by simp) (Fr.Bh m) a_ a_ ?_;intro h5 S n5 c5;simp only[OK,Ac];rw[Ch,show((i:Nat):Int)+1=((i+1:Nat):Int) from a_];have lv:=hb _ _ V;have a0:=hb _ _ W;have nx:=t.next
  have c:Av (fun j=>0<i/\j=q) h h5:=(Ext.to t).trans c5;refine ih (i+1) h5 _ (h4.next+1) a_ a_ (T.then c fun j hj a=>?_) (c5.hb M) (c.at hb V fun y=>(hq y.1).2.1 y.2.symm) (c.at hb W fun y=>(hq y.1).2.2 y.2.symm) ?_ (fun _=>⟨by have:=T.next;omega,a_,a_⟩)
  ·have:=(hq hj.1).1
   have:=hj.2;omega
  ·rw[eS,cM,dW,show([f].map Fr.cells).flatten=f.cells from dP _];exact S
theorem Bnu(hd:10<=d){X:List (List EV)}(t:X=(Gl g E x y z zn N).map fun f=>Be (Jh f))(rx:Ce h sx qx 29 64 N X.flatten)(hb:HB h):
 Ok (Ag TT disp K d false 140 [Us,I zn,sx] h) fun v h'=>∃p,v=.tuple [.agg [I x,I y,I z,.ptr p 0],I 0]/\Ext h h'/\HB h':=by
 obtain⟨e,rfl⟩:=d_ d;rw[A0x A a_];simp only[ON,Us,Aa];have a:Ext h ((h.new (.cells Bf 68)).new (.cells [.int .i64 0,.int .i64 0,.int .i64 0,.Cl] 137)):=(Av.new _ _).Db _;have c1:((h.new (.cells Bf 68)).new (.cells [.int .i64 0,.int .i64 0,.int .i64 0,.Cl] 137)).get h.next=some (.cells Bf 68):=by rw[Az _ (aN _)];exact Ad _ _
 have m:((h.new (.cells Bf 68)).new (.cells [.int .i64 0,.int .i64 0,.int .i64 0,.Cl] 137)).get (h.next+1)=some (.cells [.int .i64 0,.int .i64 0,.int .i64 0,.Cl] 137):=Ad _ _;rw[show(h.new (.cells Bf 68)).next=h.next+1 from rfl];generalize (h.new (.cells Bf 68)).new (.cells [.int .i64 0,.int .i64 0,.int .i64 0,.Cl] 137)=u at a c1 m⊢;have j:=a.hb hb;have le:∀k:EV->R,Ip sx k=k (I N):=fun k=>rx.Ip k
 have C:N<=200:=by
  have sm:=Jp hr;have:=sm.b0;have:=sm.b1;unfold Gm.parts at eN;omega
 rw[le];exact Bay (K:=K) A hK hr eN hE lE hR n0 n1 (d:=e) a_ t (aE h.next) (Nat.le_succ _) rx hb K 0 u .Aq 0 a_ a_ a j c1 m (Ce.nil _ _ _ _) (fun y=>absurd y (bT _))
end
end
section
variable {E:Nat->Prop}
structure Sb where
 cu:Int
 de:Bool
 st:Int
 be:Int
 ba:Int
 l0:Int
 l1:Int
def Sb.cells(s:Sb)(c:Nat):List EV:=[.ptr c 0,I s.cu,.bool s.de,I s.st,I s.be,I s.ba,I s.l0,I s.l1]
abbrev ji(h:Ab)(q c:Nat)(s:Sb):Prop:=h.get q=some (.cells (s.cells c) 109)
section
variable{s:Sb}
theorem E1.sb(c:E1 h h' B X F Y)(hb:HB h)(a:F q)(g:ji h q B.c s):ji h' q B.c s:=by
 show h'.get q=_;rw[c.k.get _ (hb _ _ g) fun w=>w a];exact g
theorem A8j(c:Cc E X L mt)(u:X.S.g.D*X.S.g.Z=n):∀(f i:Nat) (h:Ab),n-i<f->i<=n->Cx h B X F->ji h q B.c s ->
 Ok (Jj K f (.ptr q 0) (I 0) (I n) (I i) h) fun v h'=>v=I 0/\Ext h h':=by
 intro f;induction f with
 | zero=>intro i h hf;omega
 | succ f j=>
  intro i h hf G C g;have bd:=C.sm.Uw;rw[Jj];simp only[I,Ac];by_cases m:i<n
  ·have:decide ((i:Int)<(n:Int))=true:=by simp;omega
   simp only[this,Aa,Zp];rw[Aj g rfl rfl];simp only[Cv,Aa];rw[C.iA]
   try simp only[Aa]
   refine(J4 (K:=K) C.M.s C.hb (z:=i) ⟨a_,a_⟩).Am ?_;rintro _ h2 ⟨rfl,e⟩;rw[c.E8];simp only[Aa,Zu,I,Ac];rw[Ch,show((i:Nat):Int)+1=((i+1:Nat):Int) from a_];refine(j (i+1) h2 a_ a_ (C.Xe e).C (e.at C.hb g)).mono ?_;rintro v H ⟨a,t⟩;exact⟨a,e.trans t⟩
  ·have:decide ((i:Int)<(n:Int))=false:=by simp;omega
   simp only[this,Aa,Zh];exact .ret ⟨rfl,Av.refl _⟩
theorem VA(hK:10000<K)(c:Cc E X L mt)(C:Cx h B X F)(g:ji h q B.c s):Ok (Md K (.ptr q 0) h) fun v h'=>v=I 0/\Ext h h':=by
 simp only[Md,Aa];rw[Aj g rfl rfl];simp only[Ef,Aa];rw[C.jc];refine(Ke (K:=K) C.map C.hb).Am ?_;rintro _ h2 ⟨rfl,j,m⟩;rw[N8 C.sm,Au];have x:Ext h (h2.new (.cells (gL X.S.g) 23)):=j.Db _;have bd:=C.sm.Uw;obtain⟨n,a⟩:=av (show 0<=X.S.g.D*X.S.g.Z from a_);rw[a];refine(A8j c a K 0 _ a_ a_ (C.Xe x).C (x.at C.hb g)).mono ?_;rintro v u ⟨e,t⟩;exact⟨e,x.trans t⟩
theorem VB(C:Cx h B X F)(g:ji h q B.c s)(b0:0<=s.cu)(b1:s.cu<1000:=by omega):Ok (Oa K (.ptr q 0) h) fun v h'=>v=.bool (decide (s.cu+1=X.S.g.B+3))/\Ext h h':=by
 have sb:=C.sm.b0;have a:=C.sm.b1;simp only[Oa,Aa,As];have lq:=C.hb _ _ g;rw[Hl lq,Aj g rfl rfl]
 try simp only[Aa,As,I,Ac]
 rw[Hl lq,Aj g rfl rfl]
 try simp only[Aa,As]
 rw[kr (v:=.ptr B.b 0) (by simp only[Ef,Aa];rw[C.lift.jc])];refine Ok.bE (Ke (K:=K) C.lift.map C.lift.hb) (fun _ _ p=>p.2.1) ?_;rintro _ m h2 ⟨rfl,t,e⟩ sm j;simp only[gV,gL,Aa,I,Ac];rw[Ch,Ch];exact .ret ⟨rfl,j⟩
end
theorem Bui {b:Int}{T:Ir}{t:Nat}{a:Int}{k:EV->R}(hb:0<b)(j:0<=a):iQ (bin T .rem t) (.int .i64 a) (.int .i64 b) k=k (.int .i64 (a%b)):=by
 obtain⟨n,rfl⟩:=av (Int.le_of_lt hb);show oB k (Bc (iV (.ofNat n) 0) none (some (.int .i64 (a.tmod (.ofNat n)))))=_;have:iV (.ofNat n) 0=false:=by
  show Nat.beq n 0=false;cases n with
  | zero=>exact absurd hb c_
  | succ n=>rfl
 rw[this,Bk];have e:a.tmod (.ofNat n)=a%n:=Int.tmod_eq_emod_of_nonneg j;rw[e];rfl
def Sb.next(s:Sb)(n:Int)(ok de:Bool)(be ba:Int):Sb:=⟨(s.cu+1)%(n+3),de,s.st+1,be,ba,if ok=true then be else s.l0,if ok=true then s.st+1 else s.l1⟩
section
variable{s:Sb}
theorem Cx.ra(C:Cx h B X F)(a:F q)(g:ji h q B.c s)(s':Sb):Cx (h.put q (.cells (s'.cells B.c) 109)) B X F/\ji (h.put q (.cells (s'.cells B.c) 109)) q B.c s'/\Av (fun i=>i=q) h (h.put q (.cells (s'.cells B.c) 109)):=by
 have lq:=C.hb _ _ g;have c:Av (fun i=>i=q) h (h.put q (.cells (s'.cells B.c) 109)):=by
  exact Av.Ar (S:=fun i=>i=q) (Av.refl h) (.inl rfl) lq _
 exact⟨C.iI c (fun i e _=>by subst e;exact a) (C.hb.put lq _),Ae _ _ _,c⟩
theorem Bcp(c r:Ah)(C:Cx h B X F)(m:F q)(g:ji h q B.c s)(c0:0<=s.cu)(c1:s.cu<X.S.g.B+3)(t0:0<=s.st)(t1:s.st<1000)(ok de:Bool)(e be ba:Int):
 Ok (O3 c r K (.ptr q 0) (.bool ok) (I e) (I be) (I ba) (.bool de) h) fun v h'=>v=.tuple [.bool ok,I e]/\Cx h' B X F/\ji h' q B.c (s.next X.S.g.B ok de be ba)/\Av (fun i=>i=q) h h':=by
 have sb:=C.sm.b0;have ah:=C.sm.b1;simp only[O3,Aa];rw[Aj g rfl (v:=I s.st) rfl];simp only[I,Ac];rw[Ch];refine Ok.st (({ s with st:=s.st+1 }:Sb).cells B.c) g rfl rfl rfl ?_;obtain⟨a,t,T⟩:=C.ra m g { s with st:=s.st+1 };generalize h.put q (.cells (({ s with st:=s.st+1 }:Sb).cells B.c) 109)=h1 at a t T⊢;have lq:=a.hb _ _ t
 try simp only[Aa,As]
 rw[Hl lq,Aj t rfl (v:=I s.cu) rfl]
 try simp only[Aa,As,I,Ac]
 rw[Ch,Hl lq,Aj t rfl rfl]
 try simp only[Aa,As]
 rw[kr (v:=.ptr B.b 0) (by simp only[Ef,Aa];rw[a.lift.jc])];refine Ok.bE (Ke (K:=K) a.lift.map a.lift.hb) (fun _ _ p=>p.2.1) ?_;rintro _ ai h2 ⟨rfl,aj,al⟩ sm H;have C2:=(a.Xe H).C;have U:=H.at a.hb t;simp only[gV,gL,Aa,I,Ac];rw[Ch,Bui a_ a_]
 try simp only[Aa,As]
 rw[Hg];refine Ok.st (({ s with st:=s.st+1,cu:=(s.cu+1)%(X.S.g.B+3) }:Sb).cells B.c) U rfl rfl rfl ?_;obtain⟨V,J,W⟩:=C2.ra m U { s with st:=s.st+1,cu:=(s.cu+1)%(X.S.g.B+3) };generalize h2.put q (.cells (({ s with st:=s.st+1,cu:=(s.cu+1)%(X.S.g.B+3) }:Sb).cells B.c) 109)=h3 at V J W⊢
 try simp only[Aa]
 refine Ok.st (({ s with st:=s.st+1,cu:=(s.cu+1)%(X.S.g.B+3),be:=be }:Sb).cells B.c) J rfl rfl rfl ?_;obtain⟨C4,M,x4⟩:=V.ra m J { s with st:=s.st+1,cu:=(s.cu+1)%(X.S.g.B+3),be:=be };generalize h3.put q (.cells (({ s with st:=s.st+1,cu:=(s.cu+1)%(X.S.g.B+3),be:=be }:Sb).cells B.c) 109)=h4 at C4 M x4⊢
 try simp only[Aa]
 refine Ok.st (({ s with st:=s.st+1,cu:=(s.cu+1)%(X.S.g.B+3),be:=be,ba:=ba }:Sb).cells B.c) M rfl rfl rfl ?_;obtain⟨C5,P,x5⟩:=C4.ra m M { s with st:=s.st+1,cu:=(s.cu+1)%(X.S.g.B+3),be:=be,ba:=ba };generalize h4.put q (.cells (({ s with st:=s.st+1,cu:=(s.cu+1)%(X.S.g.B+3),be:=be,ba:=ba }:Sb).cells B.c) 109)=h5 at C5 P x5⊢
 try simp only[Aa]
 refine Ok.st (({ s with st:=s.st+1,cu:=(s.cu+1)%(X.S.g.B+3),be:=be,ba:=ba,de:=de }:Sb).cells B.c) P rfl rfl rfl ?_;obtain⟨G,j,x6⟩:=C5.ra m P { s with st:=s.st+1,cu:=(s.cu+1)%(X.S.g.B+3),be:=be,ba:=ba,de:=de };generalize h5.put q (.cells (({ s with st:=s.st+1,cu:=(s.cu+1)%(X.S.g.B+3),be:=be,ba:=ba,de:=de }:Sb).cells B.c) 109)=h6 at G j x6⊢;have xx:Av (fun i=>i=q) h h6:=((((T.trans (Ext.to H)).trans W).trans x4).trans x5).trans x6;cases ok with
 | false=>
  simp only[Aa,OH];exact .ret ⟨rfl,G,j,xx⟩
 | true=>
  have u:=G.hb _ _ j;simp only[Aa,As];rw[Hl u,Aj j rfl (v:=I be) rfl]
  try simp only[Aa,As]
  rw[Hl u,Aj j rfl (v:=I (s.st+1)) rfl]
  try simp only[Aa,As]
  rw[Ay (l:=[I be,I (s.st+1)]) rfl,Hg];refine Ok.st ((s.next X.S.g.B true de be ba).cells B.c) j rfl rfl rfl ?_;obtain⟨C7,g7,x7⟩:=G.ra m j (s.next X.S.g.B true de be ba);exact .ret ⟨rfl,C7,g7,xx.trans x7⟩
end
theorem Bmd {a n:Int}(h0:0<=a)(j:a<n+3):decide ((a+1)%(n+3)=0)=decide (a+1=n+3):=by
 by_cases e:a+1=n+3
 ·rw[e,Int.emod_self];simp
 ·have:(a+1)%(n+3)=a+1:=fm a_ a_
  rw[this];simp only[e,aA];exact aL a_
structure Tk(E:Nat->Prop)(X Y:Co)(L:List (List Nat))(mt:Int->Int):Prop where
 j:Jc E Y L mt
 r:Rd' X Y
 zs:Y.S.dr.dv.zs=X.S.dr.dv.zs
 cur:Y.cur=X.cur
theorem Tk.refl(J:Jc E X L mt):Tk E X X L mt:=⟨J,Rd'.refl X,rfl,rfl⟩
theorem Tk.trans {Z:Co}(a:Tk E X Y L mt)(b:Tk E Y Z L mt):Tk E X Z L mt:=⟨b.j,a.r.trans b.r,b.zs.trans a.zs,b.cur.trans a.cur⟩
theorem Jc.tick(J:Jc E X L mt):Tk E X { X with S:=X.S.Gq } L mt:=by
 have q:=Dq.Gq J.c.c;exact⟨⟨J.c.q0 q,J.sq.es rfl,J.fr⟩,⟨rfl,⟨rfl,rfl,rfl,rfl⟩,rfl,fun z=>Q9 q z,⟨rfl,rfl⟩⟩,rfl,rfl⟩
def VC(E:Nat->Prop)(h:Ab)(B:Cb)(X:Co)(F:Nat->Prop)(L:List (List Nat))(j:Int):EV->Ab->Prop:=fun v h'=>∃(ok:Bool) (Y:Co) (mt':Int->Int),v=.tuple [.bool ok,I 0]/\E1 h h' B X F Y/\(∀G:Nat->Prop,(∀b:Nat,E b->(b:Int)=j\/G b)->Jc G Y L mt')/\iL X Y/\(ok=false->∃b,E b)
theorem Rd'.Bos {Z:Co}(r:Rd' X Y)(o:iL Y Z):iL X Z:=⟨o.g.trans r.g,⟨o.nm.1.trans r.nm.2.1,o.nm.2.trans r.nm.2.2.2⟩,by have:=o.gen;have:=r.nm.1;omega,by have:=o.nx;have:=r.nm.2.2.1;omega⟩
section
variable (A:Bu disp)(hK:10000<K){s:Sb}
include A hK
theorem Bpy(C:Cx h B X F)(J:Jc E X L mt)(fq:F q)(g:ji h q B.c s)(hg:X.gen+1100<=281474976710655)(V:X.nx+70000<=281474976710655)(hd:29<=d)(j:Int):Ok (Ag TT disp K d false 75 [.ptr q 0,I j] h) (VC E h B X F L j):=by
 obtain⟨e,rfl⟩:=d_ d;rw[An0 A a_];simp only[NU,Aa];rw[Aj g rfl rfl];simp only[Ef,Aa];rw[C.jc]
 try simp only[Aa]
 refine(Oj (K:=K) C.sm C.map C.hb j).Am ?_;rintro _ h2 ⟨rfl,x2⟩;have c2:=C.Xe x2;have rg:=r9 C.sm (rF C.map.ok j);have st:(U7 X.es j).1.state=1->∃b:Nat,j=b/\X.es[b]? = some (U7 X.es j).1:=fun a=>by
  unfold U7 at a⊢;split at a
  next hj=>
   rw[aI hj];refine⟨j.toNat,a_,?_⟩;rw[aD a_];rfl
  ·cases a
 have st':∀(b:Nat) u,(b:Int)=j->X.es[b]? = some u->u=(U7 X.es j).1:=fun b u y t=>by subst y;rw[oL t]
 generalize U7 X.es j=P at rg st st'⊢;obtain⟨x,n⟩:=P;simp only[Aa];refine Ok.mk rfl rfl fun h3 x3 e3 _=>?_
 have c3:=c2.trans (c2.C.Xe x3);rw[Aj e3 rfl (v:=I x.state) rfl];simp only[I,Ac];by_cases a:x.state=1
 case neg=>
  simp only[a,aQ,aC,Aa];exact .ret ⟨true,X,mt,rfl,c3,fun G W=>J.mono fun b u bs e t _ w ng=>absurd w.st (by rw[st' b u ((W b e).resolve_right ng) t];exact a),iL.refl X,fun y=>by cases y⟩
 simp only[a,aB,aA,Aa];obtain⟨b,rfl,t⟩:=st a;obtain⟨bs,hL,lv⟩:=J.c.at t a;have ab:bs.length=32:=by
  obtain⟨e,we,eb,_⟩:=lv.rc.ex;rw[<-eb];exact we.1
 have g3:=c3.sb C.hb fq g;have lq:=c3.hb _ _ g3;have l6:=c3.hb _ _ e3;simp only[NT,Aa,As];rw[Hl lq,Aj g3 rfl rfl]
 try simp only[Aa,As]
 rw[kr (v:=.ptr B.m 0) (by simp only[Cv,Aa];rw[c3.C.lift.iA])]
 try simp only[Aa,As]
 rw[Hl l6,Cp e3 rfl (Ak (n:=6) rfl)]
 try simp only[Aa,As]
 have ck:=VD A hK (d:=e) a_ c3.C.lift.M c3.C.lift.hb rg.1 rg.2;have mk:=ZV X.S x;obtain⟨n,en,w⟩:=J.c.check lv;rw[en]at ck mk;have t1:=J.tick;have t2:=t1.trans t1.j.tick;refine Ok.bC (S:=fun j=>¬B.fr F j) ck (fun _ _ p=>p.2.2.2.1) ?_;rintro _ ay h4 s' ⟨rfl,bw,M',_,ad⟩ sm ch ae;have c4:=c3.C.H5 (M'.same sm) ch (sm.hb ad) mk;simp only at c4 bw;have ul:(Be bs).length=32:=by rw[Bi,ab]
 simp only[Aa];rw[Hg (by rcases ae with rfl|⟨w,rfl,_⟩<;>kernel_rfl)];refine Ok.st (Be bs) (Ad _ _) rfl (by show Gk (Be bs)=32;rw[Bg,ul]) (Bo (by rw[bR];exact ul.symm)) ?_;obtain⟨h5,e_,x5,_,_⟩:=nP h4 (.cells (List.replicate 32 (EV.int .u8 0)) 51) (.cells (Be bs) 51);rw[e_];have c5:=c4.trans (c4.C.Xe x5);simp only[I,Ac];rw[show decide ((0:Int)=34)=false from rfl];simp only[Aa,NS,Ac];rcases w with⟨rfl,l0⟩|⟨rfl,hE⟩
 ·simp only[aC,Aa]
  refine .ret ⟨true,_,mt,rfl,c3.trans c5,fun G W=>t2.j.mono fun b' u a4 e' H T w ng=>?_,t2.r.qZ,fun y=>by cases y⟩;obtain rfl:b'=b:=by have:=(W b' e').resolve_right ng;omega
  rw[t]at H;cases H;rw[hL]at T;cases T;exact(l0.q0 J.c).q0 t1.j.c
 ·rw[show decide ((1:Int)=2)=false from rfl]
  simp only[Aa,NR];have U:=c3.trans c5;rw[Aj (U.sb C.hb fq g) rfl rfl];refine Ok.Am (A8d A hK c5.C t2.j hg V (d:=e) a_ (b:Int)) ?_;rintro _ h6 ⟨e',Z,mt',rfl,c6,jz,oz,ne⟩;have hb:=(aY.1 t).1;have e0:e'=0:=eA fun y=>(ne y).2.2 ⟨a_,by show(b:Int)<(X.es.length:Int);omega⟩
  subst e0;exact .ret ⟨false,Z,mt',rfl,U.trans c6,jz,t2.r.Bos oz,fun _=>⟨b,hE⟩⟩
end
end
section
variable {E:Nat->Prop}
theorem Bny{ar m:Nat}(e:h.get ar=some (.cells (arC m cur Bt) 124))(a:i<3):Ts K (.ptr ar 0) (I i) h=some (.tuple [I (cur i),I (Bt i)],h):=by
 simp only[Ts,dr];rw[DK a,Au];simp only[Aa,NN];unfold I;rw[Vs a]
 try simp only[Aa,dU]
 rw[Aj e rfl (CZ a),Vs a]
 try simp only[Aa]
 rw[Aj e rfl (CY a)]
theorem VE:TT.size 81=some 3/\TT.agg 81=some true:=⟨by kernel_rfl,by kernel_rfl⟩
theorem Bb0(C:Cx h B X F):Ok (Rv K (.ptr B.c 0) h) fun v h'=>v=.agg [I X.gen,I X.ep,I X.nx]/\Ext h h':=by
 simp only[Rv,Aa];have gc:(h.new (.cells [.int .i64 0,.int .i64 0,.int .i64 0] 81)).get B.c=some (.cells (X.cells B) 91):=Ext.at (Av.new h _) C.hb C.core;rw[Cp gc rfl (l':=[I X.gen,I X.ep,I X.nx]) rfl];refine Ok.st [I X.gen,I X.ep,I X.nx] (Ad _ _) rfl rfl rfl ?_;rw[Rg (Ae _ _ _) VE.1 VE.2 rfl];exact .ret ⟨rfl,(Av.new h _:Ext _ _).Ar (.inr (aE _)) (aN _) _⟩
structure Sk(s:Sb)(n:Int)(i:Nat):Prop where
 c0:0<=s.cu
 c1:s.cu<n+3
 ba:s.ba=0
 t0:0<=s.st
 t1:s.st<=i
def Ex(E:Nat->Prop)(j:Int)(b:Nat):Prop:=E b/\¬(b:Int)=j
def tI(E:Nat->Prop)(h:Ab)(B:Cb)(X:Co)(F:Nat->Prop)(q:Nat)(s:Sb)(L:List (List Nat))(i:Nat):EV->Ab->Prop:=fun v h'=>∃(ok:Bool) (Y:Co) (s':Sb) (mt':Int->Int),v=.tuple [.bool (decide (s'.cu=0)&&!s'.de),I 0]/\Cx h' B Y F/\Av (fun i=>¬F i\/i=q) h h'/\ji h' q B.c s'/\Sk s' X.S.g.B (i+1)/\Jc (Ex E s.cu) Y L mt'/\iL X Y/\(s'.cu=(s.cu+1)%(X.S.g.B+3)/\s'.st=s.st+1/\s'.de=((!decide (s.cu=0)&&s.de)||!ok))/\(ok=false->∃b,E b)
theorem iL.flush {Z:Co}(a:iL X Y)(b:iL Y Z)(e:Z.gen=Y.gen)(n:Z.nx=Y.nx):iL X Z:=⟨b.g.trans a.g,⟨b.nm.1.trans a.nm.1,b.nm.2.trans a.nm.2⟩,by rw[e];exact a.gen,by rw[n];exact a.nx⟩
section
variable (A:Bu disp)(hK:10000<K){s:Sb}
include A hK
theorem Bb4(C:Cx h B X F)(J:Jc E X L mt)(hd:17<=d){z:Int}(u:0<=Bq X.S.g z){x:List EV}(H:(X.S.dr.dv.zs z.toNat).l[o]? = some x){k:EV->Ab->R}
 (e:∀h' Y,x.length=64->E1 h h' B X F Y->Tk E X Y L mt->Ok (k (.tuple [.agg x,I 0]) h') Q) :
 Ok (Am (Bn K (.ptr B.m 0) h) fun v h=>Am (Ag TT disp K d false 77 [v,I z,I o] h) k) Q:=by
 obtain⟨lt,D,p,bl,ql,np,W,cc,G,a⟩:=C.M.s;obtain⟨_,P,T,_⟩:=Mu J.c.c u;have st:=(J.c.s2 _ P).1;have rc:=TX J.c.c.ev J.c.c.up T a_ H;have t:=rS (DI X.S.dr z o);rw[Q0 a.H5,Au];have rd:=VF (K:=K) A (d:=d) a_ (fun k e=>rO A a_ X.S.dr k e) a.drv C.hb z o;rw[rc]at rd t;refine Ok.Am rd ?_;rintro _ h' ⟨rfl,hlen,d2,c2,j⟩;obtain⟨U,V⟩:=C.M.drv C.hb a d2 c2;exact e h' _ hlen (C.H5 U V j t) J.tick
theorem Bba(hd:19<=d){z:Int}(hz:0<=Bq X.S.g z){W:List (List EV)}(eW:(X.S.dr.dv.zs z.toNat).l=W)(hn:W.length<=64)(G:∀j,F j->j<h.next):∀(f i:Nat) (u:Ab) (Y:Co) (s:EV) (q:Nat),W.length-i<f->i<=W.length->E1 h u B X F Y->Tk E X Y L mt->Cx u B Y (fun j=>F j\/(0<i/\j=q))->(0<i->h.next<=q)->Ce u s q 29 64 i (W.take i).flatten ->
 Ok (K9 (Ag TT disp K d false) (Ag TT disp K d true) K f (I z) (.ptr B.m 0) s (I W.length) (I i) u) fun v h'=>∃(sx:EV) (qx:Nat) (Z:Co),v=.tuple [sx,.bool true,I 0]/\E1 h h' B X F Z/\Tk E X Z L mt/\Ce h' sx qx 29 64 W.length W.flatten:=by
 intro f;induction f with
 | zero=>intro i u Y s q hf;omega
 | succ f ih=>
  intro i u Y s q hf hi c1 t1 C1 hq row;rw[K9];simp only[I,Ac];by_cases H:i<W.length
  case neg=>
   obtain rfl:i=W.length:=a_
   have:decide ((W.length:Int)<(W.length:Int))=false:=by simp
   rw[bY]at row;simp only[this,Aa,NZ];exact .ret ⟨s,q,Y,rfl,c1,t1,row⟩
  have:decide ((i:Int)<(W.length:Int))=true:=by simp;omega
  simp only[this,Aa,OE];have eT:=br H;have eg:(Y.S.dr.dv.zs z.toNat).l[i]? = some W[i]:=by rw[t1.zs,eW,aD H]
  generalize W[i]=l at eT eg;refine Bb4 (L:=L) (mt:=mt) A hK C1 t1.j (d:=d) a_ (by rw[t1.r.g];exact hz) eg fun h2 Z V c2 t2=>?_
  have J:E1 h h2 B X F Z:=c1.trans (c2.less fun j=>.inl);have t13:=t1.trans t2;simp only[Aa];refine Ok.mk rfl V fun M x3 e3 _=>?_
  have c3:=c2.trans (c2.C.Xe x3);have t:=J.trans (J.C.Xe x3);have az:Eu (.tuple []) false=false/\Eu (.tuple []) true=false:=⟨rfl,rfl⟩;simp only[I,Ac];rw[show decide ((0:Int)=34)=false from rfl];simp only[Aa,Bz];rw[show decide ((0:Int)=32)=false from rfl];simp only[Aa,Bz,OD,OC,OB,OA,I,Ac];simp only[aB,aA];simp only[Aa,N_];rw[Cp e3 rfl (Ak V)];have P:=row.frame (h':=M) fun y=>c3.k.get _ (c1.hb _ _ (row.block y)) fun w=>w (.inr ⟨y,rfl⟩)
  have T:=t.hb;refine Ml (z:=List.replicate 64 (EV.int .u8 0)) (v:=.agg l) P T rfl (by simp) V a_ a_ fun h6 U a0 c6=>?_
  have ad:=c6.hb T;have C6:=c3.C.uh c6 (fun j hj V=>.inr ⟨hj.1,hj.2⟩) ad;have ae:Cx h6 B Z (fun j=>F j\/(0<i+1/\j=M.next+1)):=C6.less fun j hj=>by
   rcases hj with hj|⟨_,rfl⟩
   ·exact .inl (.inl hj)
   ·exact .inr ⟨a_,a_⟩
  have af:Kf F M h6:=c6.mono fun j hj y=>by
   have a:=G j y;have b:=hq hj.1;have e:=hj.2;omega
  have ag:E1 h h6 B X F Z:=t.trans ⟨C6.less fun j hj=>.inl (.inl hj),af,Ck.refl _⟩;simp only[N',Ac];rw[Ch,show((i:Nat):Int)+1=((i+1:Nat):Int) from a_];have ao:=t.k.next
  refine ih (i+1) h6 Z (.slice (M.next+1) 0 (i+1) (i+1) true) (M.next+1) a_ a_ ag t13 ae (fun _=>by omega) ?_;rw[eT,dW,show([l]).flatten=l by simp];exact U
theorem Bsg(C:Cx h B X F)(J:Jc E X L mt)(g:ji h q B.c s){z:Int}(u:0<=Bq X.S.g z)(hd:20<=d):Ok (Ag TT disp K d false 139 [.ptr q 0,I z] h) fun v h'=>∃(sx:EV) (qx:Nat) (Z:Co),v=.tuple [sx,.bool true,I 0]/\E1 h h' B X F Z/\Tk E X Z L mt/\Ce h' sx qx 29 64 (X.S.dr.dv.zs z.toNat).l.length (X.S.dr.dv.zs z.toNat).l.flatten:=by
 obtain⟨e,rfl⟩:=d_ d;rw[Apy A a_];simp only[OG,Aa];rw[Aj g rfl rfl];simp only[Cv,Aa];rw[C.iA]
 try simp only[Aa]
 obtain⟨_,H,P,_⟩:=Mu J.c.c u;obtain⟨D,V,T,e1,e2,e3⟩:∃(D V:Nat),(X.S.dr.dv.zs z.toNat).l.length<=64/\Bn K (.ptr B.m 0) h=some (.ptr D 0,h)/\Cw K (.ptr D 0) h=some (.ptr V 0,h)/\Qy K (.ptr V 0) (I z) h=some (I (X.S.dr.dv.zs z.toNat).l.length,h):=by
  obtain⟨lt,D,p,bl,ql,np,U,W,G,a⟩:=C.M.s;obtain⟨V,M',qc,qh,cs,hs,ms,F',t⟩:=a.drv.Ph;have w:=t.dev.wf;refine⟨D,V,?_,Q0 a.H5,xj t,?_⟩
  ·have:=(w.zs z.toNat a_).len
   have:=w.size;omega
  ·rw[Bb2 t.dev,aI P]
 rw[e1,Au,e2,Au,e3,Au];exact Bba A hK (d:=e) a_ u rfl T (fun j hj=>C.M.lt _ (.inl hj)) K 0 h X .Aq 0 a_ a_ (E1.refl C) (Tk.refl J) (C.less fun j hj=>by rcases hj with hj|⟨y,_⟩;exact hj;omega) (fun y=>by omega) (Ce.nil _ _ _ _)
theorem Bhc(C:Cx h B X F)(J:Jc E X L mt)(u:F q)(g:ji h q B.c s)(g1:1<=X.gen)(H:i<3)(hd:22<=d):Ok (Ag TT disp K d false 106 [.ptr q 0,I i] h) fun v h'=>v=.tuple [.bool true,I 0]/\∃Y,E1 h h' B X F Y/\Tk E X Y L mt:=by
 obtain⟨e,rfl⟩:=d_ d;rw[Ak8 A a_];simp only[NY,Aa];rw[Aj g rfl rfl];simp only[xV,Aa];rw[C.Hl]
 try simp only[Aa]
 rw[Bny C.ar H,Au];have dz:=(J.c.ar i H).1;have P:0<=Bq X.S.g (X.cur i):=a_
 have rz:=Y6 J.c.c.sm P;have nn:=Jb J.c.c.sm P;obtain⟨E,w,hR,hE,lE,U⟩:Bd7 X.S X.gen (X.cur i):=by
  rcases J.c.hd with y|y
  ·omega
  ·exact y i H
 simp only[Aa,I,Ac];have af:Eu (.tuple []) false=false/\Eu (.tuple []) true=false:=⟨rfl,rfl⟩;rw[aL (show ¬X.cur i = -1 from a_)];simp only[Aa,Bz];rw[Aj g rfl rfl];simp only[Cv,Aa];rw[C.iA]
 try simp only[Aa]
 refine(J4 (K:=K) C.M.s C.hb rz).Am ?_;rintro _ h2 ⟨rfl,x2⟩;have c2:=C.Xe x2;have g2:=c2.sb C.hb u g;rw[J.c.E8];simp only[Aa,Y7,X0];refine Ok.Am (Bsg A hK c2.C J g2 P (d:=e) a_) ?_;rintro _ V ⟨sx,qx,Y,rfl,T,t3,row⟩;have c3:=c2.trans T;have g3:=c3.sb C.hb u g;simp only[Aa,I,Ac];simp only[aB,aA];simp only[Aa,Bz,X5,Xh];rw[Aj g3 rfl rfl];simp only[Cv,Aa];rw[c3.C.iA]
 try simp only[Aa]
 have tb:Ok (Gz K (.ptr B.m 0) V) fun v h'=>v=Us/\Ext V h':=by
  obtain⟨lt,D,p,bl,ql,np,qq,cc,G,a⟩:=c3.C.M.s;exact CU a.H5 c3.hb
 refine tb.Am ?_;rintro _ h4 ⟨rfl,W⟩;have c4:=c3.trans (c3.C.Xe W);have sm:=C.sm;have al:=sm.b0;have ao:=sm.b1;have zb:X.cur i<X.S.g.D*X.S.g.Z:=by rcases I8 sm (X.cur i)with y|⟨_,_,_,_,y⟩<;>omega
 have eN:((X.S.g.parts.toNat:Nat):Int)=X.S.g.parts:=by unfold Gm.parts;omega
 have lL:(X.S.dr.dv.zs (X.cur i).toNat).l.length=X.S.g.parts.toNat:=by rw[U];unfold nu;rw[bk,rK]
 rw[lL]at row;have t:Ce h4 sx qx 29 64 X.S.g.parts.toNat (X.S.dr.dv.zs (X.cur i).toNat).l.flatten:=row.frame fun y=>W.get _ (c3.hb _ _ (row.block y)) id
 refine(Bnu A hK (d:=e) J.c.c.rt eN hE lE hR nn zb a_ U t c4.hb).Am ?_;rintro _ h5 ⟨p,rfl,x5,_⟩;have c5:=c4.trans (c4.C.Xe x5);simp only[Aa];refine Ok.mk rfl rfl fun h6 x6 g6 n6=>?_
 have j:=c5.trans (c5.C.Xe x6);have gs:=j.sb C.hb u g;have ls:=j.hb _ _ gs;have l6:=j.hb _ _ g6;simp only[I,Ac];simp only[aC,Aa,Bz,As];rw[Hl (show h5.next<h6.next from a_),Aj g6 rfl (v:=I X.gen) rfl]
 try simp only[Aa,As]
 rw[Hl ls,Aj gs rfl rfl]
 try simp only[Aa,As]
 refine Ok.bE (Bb0 (K:=K) j.C.lift) (fun _ _ p=>p.2) ?_;rintro _ a0 h7 ⟨rfl,_⟩ a1 x7;simp only[Aa,I,Ac];rw[aO (show X.gen=Y.gen from t3.r.nm.1.symm)];simp only[Aa,P0];exact .ret ⟨rfl,Y,j.trans (j.C.Xe x7),t3⟩
theorem Bsh(C:Cx h B X F)(J:Jc E X L mt)(m:F q)(g:ji h q B.c s)(M:1<=X.gen)(c0:0<=s.cu)(c1:s.cu<X.S.g.B+3)(hg:X.gen+1100<=281474976710655)(t:X.nx+70000<=281474976710655)(hd:30<=d):Ok (Ag TT disp K d false 41 [.ptr q 0] h) (VC E h B X F L s.cu):=by
 obtain⟨e,rfl⟩:=d_ d;have sb:=C.sm.b0;have P:=C.sm.b1;have T:Eu (.tuple []) false=false/\Eu (.tuple []) true=false:=⟨rfl,rfl⟩;rw[Aqa A a_];simp only[NX,Aa];rw[Aj g rfl rfl];simp only[Ef,Aa];rw[C.jc]
 try simp only[Aa]
 refine(Ke (K:=K) C.map C.hb).Am ?_;rintro _ h2 ⟨rfl,U,_⟩;have c2:=C.Xe U;have a:=c2.sb C.hb m g;simp only[gV,gL,Aa];rw[Aj a rfl (v:=I s.cu) rfl];simp only[I,Ac];by_cases u:X.S.g.B<=s.cu
 ·rw[aO (show s.cu≥X.S.g.B from u)]
  simp only[Aa];rw[Aj a rfl (v:=I s.cu) rfl];simp only[I,Ac];rw[Ch];obtain⟨i,V⟩:=av (show 0<=s.cu-X.S.g.B from a_);rw[V];obtain⟨e',rfl⟩:=d_ e;have ar:Ok (Ag TT disp K (e'+1) false 74 [.ptr q 0,I i] h2) fun v h'=>v=.tuple [.bool true,I 0]/\∃Y,E1 h2 h' B X F Y/\Tk E X Y L mt:=by
   rw[Aq6 A a_];simp only[NQ,Aa];refine(Bhc A hK c2.C J m a M (i:=i) a_ (d:=e') a_).Am ?_;rintro _ H ⟨rfl,w⟩;simp only[Aa,I,Ac,NP];exact .ret ⟨rfl,w⟩
  simp only[I]at ar;refine ar.Am ?_;rintro _ H ⟨rfl,Y,c3,t3⟩;simp only[Aa];refine .ret ⟨true,Y,mt,rfl,c2.trans c3,fun G W=>t3.j.mono fun b x bs e hx _ _ ng=>?_,t3.r.qZ,fun y=>by cases y⟩;have:=(W b e).resolve_right ng;have:=(aY.1 hx).1;have:=t3.j.c.lb;rw[t3.r.g]at this;omega
 ·rw[aL (show ¬s.cu≥X.S.g.B from u)]
  simp only[Aa,NW];rw[Aj a rfl (v:=I s.cu) rfl];refine(Bpy A hK c2.C J m a hg t (d:=e) a_ s.cu).Am ?_;rintro _ H ⟨ok,Y,mt',rfl,c3,r⟩;simp only[Aa];exact .ret ⟨ok,Y,mt',rfl,c2.trans c3,r⟩
theorem VG(C:Cx h B X F)(J:Jc E X L mt)(j:F q)(g:ji h q B.c s)(g1:1<=X.gen)(k:Sk s X.S.g.B i)(hi:i<=900)(hg:X.gen+1100<=281474976710655)(T:X.nx+70000<=281474976710655)(hd:31<=d):
 Ok (Ag TT disp K d false 15 [.ptr q 0] h) (tI E h B X F q s L i):=by
 obtain⟨c0,c1,ba,t0,t1⟩:=k;have sb:=C.sm.b0;have aq:=C.sm.b1;obtain⟨e,rfl⟩:=d_ d;rw[Ao8 A a_];simp only[OJ];refine Ok.Am (VA hK J.c C g) ?_;rintro _ h2 ⟨rfl,x2⟩;have c2:=C.Xe x2;have g2:=c2.sb C.hb j g;refine Ok.Am (Bsh A hK c2.C J j g2 g1 c0 c1 hg T (d:=e) a_) ?_;rintro _ h3 ⟨ok,Y,mt',rfl,U,jG,H,hk⟩;have c3:=c2.trans U;have m:=c3.sb C.hb j g;have eg:Y.S.g=X.S.g:=H.g;have jE:=jG E fun _=>.inr
 have V:=jG (Ex E s.cu) fun b y=>(eO _).imp id fun z=>⟨y,z⟩
 have t:Eu (.tuple []) false=false/\Eu (.tuple []) true=false:=⟨rfl,rfl⟩;simp only[Aa,I,Ac];rw[show decide ((0:Int)=34)=false from rfl];simp only[Aa,OI];rw[Aj m rfl (v:=I s.be) rfl]
 try simp only[Aa]
 rw[Aj m rfl (v:=I s.ba) rfl]
 try simp only[Aa]
 rw[Aj m rfl (v:=.bool s.de) rfl]
 try simp only[Aa]
 rw[Aj m rfl (v:=I s.cu) rfl];have W:∀(be:Int) (de:Bool),de=(!decide (s.cu=0)&&s.de)->Ok (U3 (Ag TT disp K e false) (Ag TT disp K e true) K (.ptr q 0) (I 0) (.bool ok) (I be) (I 0) (.bool de) h3) (tI E h B X F q s L i):=fun be de aa=>by
  have fin:∀(h4:Ab) (Z:Co) (M D:Bool),E1 h h4 B X F Z->Jc (Ex E s.cu) Z L mt'->iL X Z->D=(de||!ok)->M=(decide (s.cu+1=X.S.g.B+3)&&!D)->Ok (O3 (Ag TT disp K e false) (Ag TT disp K e true) K (.ptr q 0) (.bool M) (I 0) (I be) (I 0) (.bool D) h4) (tI E h B X F q s L i):=fun h4 Z M D c4 jz rz a hok=>by
   have u:Z.S.g=X.S.g:=rz.g;refine Ok.mono (Bcp _ _ c4.C j (c4.sb C.hb j g) c0 (by rw[u];exact c1) t0 a_ M D 0 be 0) ?_;rintro v h' ⟨rfl,C',g',x⟩;refine⟨ok,Z,_,mt',?_,C',(Av.mono c4.k fun i y=>.inl y).trans (x.mono fun i y=>.inr y),g',⟨fV _ (by rw[u];omega),?_,rfl,?_,?_⟩,jz,rz,⟨by rw[<-u];rfl,rfl,by show D=_;rw[a,aa]⟩,hk⟩
   ·show _=EV.tuple [.bool (decide ((s.cu+1)%(Z.S.g.B+3)=0)&&!D),I 0]
    rw[u,Bmd c0 c1,hok]
   ·show(s.cu+1)%(Z.S.g.B+3)<_
    rw[u];exact gO _ a_
   ·show 0<=s.st+1;omega
   ·show s.st+1<=((i+1:Nat):Int);omega
  have j4:∀(h4:Ab) (D:Bool) (x:EV),E1 h h4 B X F Y->D=(de||!ok)->(D=false->x=.bool false)->Ok (U5 (Ag TT disp K e false) (Ag TT disp K e true) K (.ptr q 0) (I 0) (I be) (I 0) (.bool D) x h4) (tI E h B X F q s L i):=fun h4 D x c4 a hx=>by
   have pk:∀k:EV->R,kF (.bool D) (.bool true) x k=k (.bool D):=fun k=>by
    cases D with
    | true=>rfl
    | false=>rw[hx rfl];rfl
   simp only[U5,dr,pk];refine Ok.Am (VB (K:=K) c4.C (c4.sb C.hb j g) c0) ?_;rintro _ h5 ⟨rfl,x5⟩;have G:=c4.trans (c4.C.Xe x5);rw[eg];by_cases hE:s.cu+1=X.S.g.B+3
   ·rw[aO hE]
    cases D with
    | true=>
     simp only[Aa,Bz,O8,O0];exact fin h5 Y false true G V H a (by simp)
    | false=>
     simp only[Aa,Bz,O8];rw[Aj (G.sb C.hb j g) rfl rfl];refine Ok.Am (A6l A hK G.C V (d:=e) a_) ?_;rintro _ h6 ⟨rfl,Z,c6,jz,oz,ng,nn⟩;simp only[I,Ac];simp only[aB,aA];simp only[Aa,O0];exact fin h6 Z true false (G.trans c6) jz (H.flush oz ng nn) a (by simp[hE])
   ·rw[aL hE]
    simp only[Aa,Bz,O8,O0];exact fin h5 Y false D G V H a (by simp[hE])
  have j7:∀(D:Bool) (x y:EV),D=(de||!ok)->(∀k:EV->R,kF x (.bool true) y k=k (.bool D))->Ok (Up (Ag TT disp K e false) (Ag TT disp K e true) K (.ptr q 0) (I 0) (I be) (I 0) x y h3) (tI E h B X F q s L i):=fun D x y a pk=>by
   simp only[Up,dr,pk];cases D with
   | true=>
    simp only[Bz,Aa,O9,O6,t];exact j4 _ true _ c3 a fun y=>by cases y
   | false=>
    simp only[Bz,Aa];refine Ok.Am (VB (K:=K) c3.C m c0) ?_;rintro _ h4 ⟨rfl,x4⟩;have c4:=c3.trans (c3.C.Xe x4);cases decide (s.cu+1=Y.S.g.B+3)with
    | false=>
     simp only[Aa,O9,O6,t,Bz];exact j4 _ false _ c4 a fun _=>rfl
    | true=>
     simp only[Aa,O9,Bz];refine Ok.Am (VA hK jE.c c4.C (c4.sb C.hb j g)) ?_;rintro _ h5 ⟨rfl,x5⟩;simp only[I,Ac];simp only[aB,aA];simp only[O6,Aa,Bz];exact j4 _ false _ (c4.trans (c4.C.Xe x5)) a fun _=>rfl
  simp only[U3];cases de with
  | true=>
   simp only[Bz,Aa];exact j7 true _ _ rfl fun _=>rfl
  | false=>
   simp only[Bz,Aa];cases ok with
   | true=>rw[Al];exact j7 false _ _ rfl fun _=>rfl
   | false=>rw[Bk];exact j7 true _ _ rfl fun _=>rfl
 rw[ba];simp only[I,Ac]at W⊢;by_cases P:s.cu=0
 ·rw[aO P]
  simp only[Aa];rw[Aj m rfl (v:=I s.st) rfl];simp only[I,Ac];rw[Ch];exact W _ _ (by rw[aO P];rfl)
 ·rw[aL P]
  simp only[Aa];exact W _ _ (by rw[aL P];rfl)
end
end
def rh:List Nat:=[0,242,225,19,199,53,38,212,138,120,107,153,77,191,172,94,16,226,241,3,215,37,54,196,154,104,123,137,93,175,188,78,32,210,193,51,231,21,6,244,170,88,75,185,109,159,140,126,48,194,209,35,247,5,22,228,186,72,91,169,125,143,156,110,65,179,160,82,134,116,103,149,203,57,42,216,12,254,237,31,81,163,176,66,150,100,119,133,219,41,58,200,28,238,253,15,97,147,128,114,166,84,71,181,235,25,10,248,44,222,205,63,113,131,144,98,182,68,87,165,251,9,26,232,60,206,221,47,130,112,99,145,69,183,164,86,8,250,233,27,207,61,46,220,146,96,115,129,85,167,180,70,24,234,249,11,223,45,62,204,162,80,67,177,101,151,132,118,40,218,201,59,239,29,14,252,178,64,83,161,117,135,148,102,56,202,217,43,255,13,30,236,195,49,34,208,4,246,229,23,73,187,168,90,142,124,111,157,211,33,50,192,20,230,245,7,89,171,184,74,158,108,127,141,227,17,2,240,36,214,197,55,105,155,136,122,174,92,79,189,243,1,18,224,52,198,213,39,121,139,152,106,190,76,95,173]
theorem Bom:kM.map (fun n=>Nat.div n 16777216)=rh:=by kernel_rfl
theorem Bks:((List.range 256).all fun i=>Nat.beq (rh.idxOf ((rh[i]?).getD 0)) i)=true:=by kernel_rfl
theorem Bnd {j:Nat}(m:i<256)(hj:j<256)(h:(kM[i]?).getD 0/16777216=(kM[j]?).getD 0/16777216):i=j:=by
 have t:∀k,k<256->(rh[k]?).getD 0=(kM[k]?).getD 0/16777216:=fun k a=>by
  have e:k<kM.length:=by rw[VH];exact a
  rw[<-Bom,bH,aD e];rfl
 have o:∀k,k<256->rh.idxOf ((rh[k]?).getD 0)=k:=fun k a=>aK (dS.1 Bks k (cm.2 a))
 rw[<-o i m,<-o j hj,t i m,t j hj,h]
theorem Bo9(a b:Nat):(a ^^^ b)/16777216=(a/16777216) ^^^ (b/16777216):=by
 have:=Nat.shiftRight_xor_distrib (a:=a) (b:=b) (i:=24);simpa [fJ]using this
theorem wa {a c:Nat}(h:a ^^^ c=b ^^^ c):a=b:=by
 have:=congrArg (fun n=>n ^^^ c) h;simpa [Nat.xor_assoc]using this
theorem VI {r a c j:Nat}(hr:r<4294967296)(t:a<4294967296)(u:c<256)(m:j<256)(h:nv r c=nv a j):r/256=a/256/\(r%256) ^^^ c=(a%256) ^^^ j:=by
 unfold nv at h;have i1:(r%256) ^^^ c<2^8:=dN (n:=8) (gR _ c_) u;have i2:(a%256) ^^^ j<2^8:=dN (n:=8) (gR _ c_) m;have e:(r%256) ^^^ c=(a%256) ^^^ j:=by
  refine Bnd i1 i2 ?_;have:=congrArg (fun n=>n/16777216) h;simp only[Bo9]at this;rw[show r/256/16777216=0 from a_,show a/256/16777216=0 from a_,Nat.zero_xor,Nat.zero_xor]at this;exact this
 rw[e]at h;exact⟨wa h,e⟩
theorem VJ:∀(l:List Nat) {r m:Nat},r<4294967296->m<4294967296->(∀b∈l,b<256)->kN r l=kN m l->r=m
 | [],_,_,_,_,_,h=>h
 | c::l,r,m,hr,j,u,h=>by
  have t:=u c (aW ..);have e:=VJ l (ri hr t) (ri j t) (fun b hb=>u b (aT _ hb)) h;obtain⟨a,b⟩:=VI hr j t t e;have:=wa b;omega
theorem VK:∀(a b:List Nat) {r c m:Nat},r<4294967296->c<256->m<256->(∀x∈a,x<256)->(∀x∈b,x<256)->kN r (a++c::b)=kN r (a++m::b)->c=m
 | [],b,r,c,m,hr,t,j,_,hb,h=>by
  have e:=VJ b (ri hr t) (ri hr j) hb h;have:=(VI hr hr t j e).2;rw[Nat.xor_comm,Nat.xor_comm (r%256)]at this;exact wa this
 | x::a,b,r,c,m,hr,t,j,u,hb,h=>VK a b (ri hr (u x (aW ..))) t j (fun y C=>u y (aT _ C)) hb h
theorem VL {s:List Nat}{k n:Nat}(a:k<s.length):s=s.take k++s[k]::s.drop (k+1):=by
 rw[List.getElem_cons_drop,List.take_append_drop]
theorem Bcr {s s':List Nat}(H:s.length=64)(G:s'.length=64)(u:∀b∈s,b<256)(J:∀b∈s',b<256)(S:k<64)(ne:¬s'[k]? = s[k]?)(eq:∀j,¬j=k->s'[j]? = s[j]?)(m:j8 s=true):j8 s'=false:=by
 cases a:j8 s' with
 | false=>rfl
 | true=>
 exfalso;unfold j8 at m a;rw[aS,H]at m;rw[aS,G]at a;simp only[show 64-4=60 from rfl]at m a;by_cases h:k<60
 ·have M:s'.drop 60=s.drop 60:=dF fun j=>by rw[dM,dM,eq _ a_]
  rw[M,<-m]at a;have e:=congrArg Ps a;have ut:∀b∈s.take 60,b<256:=fun b hb=>u b (bV hb)
  have t:∀b∈s'.take 60,b<256:=fun b hb=>J b (bV hb)
  rw[tJ,tJ,fD (qX t),fD (qX ut)]at e;unfold Fq at e;have e:=wa e;have lt:k<(s.take 60).length:=by rw[bW];omega
  have C:k<(s'.take 60).length:=by rw[bW];omega
  have e1:(s'.take 60).take k=(s.take 60).take k:=dF fun j=>by
   simp only[fR];split
   ·split
    ·exact eq j a_
    ·rfl
   ·rfl
  have e2:(s'.take 60).drop (k+1)=(s.take 60).drop (k+1):=dF fun j=>by
   simp only[dM,fR];split
   ·exact eq _ a_
   ·rfl
  rw[VL (n:=0) C,VL (n:=0) lt,e1,e2]at e;have:=VK _ _ c_ (t _ (bI C)) (ut _ (bI lt)) (fun b hb=>ut b (bV hb)) (fun b hb=>ut b (aH hb)) e;simp only[List.getElem_take]at this;exact ne (by rw[aD a_,aD a_,this])
 ·have P:s'.take 60=s.take 60:=dF fun j=>by
   simp only[fR];split
   ·exact eq j a_
   ·rfl
  rw[P,m]at a;have:=congrArg (fun l=>l[k-60]?) a;simp only[dM]at this;rw[show 60+(k-60)=k from a_]at this;exact ne this.symm
section
structure zM(p:List Nat)(k:Nat):Prop where
 len:p.length=64
 u8:∀b∈p,b<256
 lt:k<64
 ne:¬p[k]? = some 0
 eq:∀j,j<64->¬j=k->p[j]? = some 0
theorem Bme(a b:List Nat):Tx (Be a) (Be b)=Be (List.zipWith Nat.xor a b):=by
 unfold Tx Be;rw[List.zipWith_map,List.map_zipWith];rfl
theorem Bms(w:f.Wf)(hf:(Tw (Jh f)).2=0)(P:zM p k)(z off:Int):¬(iD (kq (Tx (Be (Jh f)) (Be p))) z off).2=0:=by
 rw[Bme,tF];have a:=nH w;have ul:∀b∈Jh f,b<256:=fun b hb=>by
  unfold Jh at hb;rcases bN.1 hb with y|y
  ·exact zN w b y
  ·exact I6 _ _ b y
 have m:j8 (Jh f)=true:=by
  cases h:j8 (Jh f)with
  | true=>rfl
  | false=>
   unfold Tw at hf;rw[aI h]at hf;cases hf
 generalize Jh f=s at a ul m;have Ph:∀j,j<64->∃x y,s[j]? = some x/\p[j]? = some y/\x<256/\y<256/\(List.zipWith Nat.xor s p)[j]? = some (x ^^^ y):=fun j hj=>by
  have t:j<s.length:=a_
  have h2:j<p.length:=by rw[P.len];exact hj
  refine⟨s[j],p[j],aD t,aD h2,ul _ (bI _),P.u8 _ (bI _),?_⟩;rw[List.getElem?_zipWith,aD t,aD h2];rfl
 have u:(List.zipWith Nat.xor s p).length=64:=by rw[List.length_zipWith,a,P.len];rfl
 have sh:j8 (List.zipWith Nat.xor s p)=false:=by
  refine Bcr a u ul (fun b hb=>?_) P.lt (fun y=>?_) (fun j hj=>?_) m
  ·obtain⟨j,hj,rfl⟩:=List.getElem_of_mem hb
   obtain⟨x,y,_,_,C,G,e⟩:=Ph j a_;rw[aD hj]at e;injection e with e;rw[e];exact dN (n:=8) C G
  ·obtain⟨x,v,e1,e2,_,_,e⟩:=Ph k P.lt
   rw[e,e1]at y;injection y with y;have:v=0:=by
    have h:x ^^^ (x ^^^ v)=x ^^^ x:=by rw[y]
    rwa [<-Nat.xor_assoc,Nat.xor_self,Nat.zero_xor]at h
   subst this;exact P.ne e2
  ·by_cases h:j<64
   ·obtain⟨x,v,e1,e2,_,_,e⟩:=Ph j h
    rw[P.eq j h hj]at e2;cases e2;rw[e,e1,Nat.xor_zero]
   ·rw[cD a_,cD a_]
 unfold iD;have hd:(Tw (List.zipWith Nat.xor s p)).2=11:=by unfold Tw;rw[aI sh]
 rw[aI (by rw[hd];decide),hd];decide
noncomputable def Mi.G8(S:Mi)(z off:Int)(p:List EV):Mi:={ S with dr:={ S.dr with dv:=S.dr.dv.G8 z off p } }
theorem Bky {S:Mi}{z off:Int}{p v:List EV}(u:S.dr.dv.has z=true)(h0:0<=off)(m:(S.dr.dv.zs z.toNat).l[off.toNat]? = some v):
 (∀i,(((S.G8 z off p).dr.dv.zs i).st=(S.dr.dv.zs i).st/\((S.G8 z off p).dr.dv.zs i).l.length=(S.dr.dv.zs i).l.length)/\∀j:Nat,¬(i=z.toNat/\j=off.toNat)->((S.G8 z off p).dr.dv.zs i).l[j]? = (S.dr.dv.zs i).l[j]?)/\((S.G8 z off p).dr.dv.zs z.toNat).l[off.toNat]? = some (Tx v p)/\(S.G8 z off p).dr.dv.n=S.dr.dv.n/\(S.G8 z off p).dr.dv.size=S.dr.dv.size/\(S.G8 z off p).dr.dv.op=S.dr.dv.op/\(S.G8 z off p).dr.dv.down=S.dr.dv.down:=by
 have a:=(aY.1 m).1;have e:S.dr.dv.G8 z off p=S.dr.dv.set z.toNat { S.dr.dv.zs z.toNat with l:=(S.dr.dv.zs z.toNat).l.set off.toNat (Tx v p) }:=by
  unfold Dv.G8;rw[aI ⟨u,h0,a_⟩,m];rfl
 unfold Mi.G8;simp only[e];refine⟨fun i=>?_,?_,rfl,rfl,rfl,rfl⟩
 ·show((Hd _ _ _ i).st=_/\(Hd _ _ _ i).l.length=_)/\∀j:Nat,_->(Hd _ _ _ i).l[j]? = _
  unfold Hd;by_cases t:i=z.toNat
  ·subst t
   rw[aI rfl];refine⟨⟨rfl,bM⟩,fun j hj=>?_⟩;show((S.dr.dv.zs z.toNat).l.set off.toNat _)[j]? = _;rw[cW,aG (fun y=>hj ⟨rfl,y.symm⟩)]
  ·rw[aG t]
   exact⟨⟨rfl,rfl⟩,fun _ _=>rfl⟩
 ·show(Hd _ _ _ z.toNat).l[off.toNat]? = _
  unfold Hd;rw[aI rfl];show((S.dr.dv.zs z.toNat).l.set off.toNat _)[off.toNat]? = _;rw[cW,aI rfl,aI a]
theorem Jc.G8(J:Jc (fun _=>False) X L mt){x:Me}(M:X.es[b]? = some x)(h1:x.state=1){z:Int}(G:z=x.Ai\/z=x.Aw)(P:zM p k):X.S.dr.dv.has z=true/\0<=x.off/\x.off<(X.S.dr.dv.zs z.toNat).l.length/\Jc (fun i=>i=b) { X with S:=X.S.G8 z x.off (Be p) } L mt:=by
 have c:=J.c;obtain⟨bs,hL,l⟩:=c.at M h1;obtain⟨m1,m2,hd,hq,_⟩:=mz l.ok;obtain⟨d1,o0,o1⟩:=G6 m1;obtain⟨d2,_,_⟩:=G6 m2;obtain⟨e,V,eb,ek,eo,es,T,U⟩:=l.rc.ex;have T:=T.resolve_right fun y=>y.1
 have U:=U.resolve_right fun y=>y.1
 have sm:=c.c.sm;have s1:=sm.s1;have dz:0<=Bq X.S.g z:=by rcases G with rfl|rfl<;>assumption
 obtain⟨z0,zn,zh,z1⟩:=Mu c.c dz;obtain⟨mt',hg⟩:∃mt',Aqk X.S X.ep x e z mt'/\0<=Bq X.S.g mt':=by
  rcases G with rfl|rfl
  ·exact⟨x.Aw,T,d2⟩
  ·exact⟨x.Ai,U,d1⟩
 obtain⟨hg,dm⟩:=hg;obtain⟨w0,wn,wh,w1⟩:=Mu c.c dm;have ay:=(aY.1 hg).1;obtain⟨zs,zb,W,zS,zO,zD⟩:=Bky (p:=Be p) zh o0 hg;have bad:A0p (X.S.G8 z x.off (Be p)) x z:=by
  refine⟨_,zb,?_⟩;have f:=eo.at (z:=z) (mt:=mt') (off:=x.off) z0 a_ w0 a_ o0 a_;have w':({ e with Aw:=mt' }:En).Wf:=⟨V.len,V.u8⟩;obtain⟨f1,f2,_⟩:=v8 w' f;have fw:=tE w' z x.off X.ep x.seq;have ha:=v9 (by rw[f1]at fw;exact fw) f2;have hf:(Tw (Jh (Es { e with Aw:=mt' } z x.off X.ep x.seq).1)).2=0:=by
   rw[f1];have:=congrArg Prod.snd ha;unfold iD at this;split at this
   next y=>exact absurd this y
   next y=>exact eA y
  exact Bms fw hf P z x.off
 have ab:inB z x=true:=mC.2 ⟨h1,G.imp Eq.symm Eq.symm⟩;have F1:∀(C:Nat) a (w:Int),¬C=b->X.es[C]? = some a->a.state=1->(w=a.Ai\/w=a.Aw)->0<=Bq X.S.g w->0<=a.off->((X.S.G8 z x.off (Be p)).dr.dv.zs w.toNat).l[a.off.toNat]? = (X.S.dr.dv.zs w.toNat).l[a.off.toNat]?:=fun C a w hb m ad hw dw ow=>by
  refine(zs w.toNat).2 _ fun y=>hb ?_
  have ew:=Kg sm dw dz y.1;exact c.apart J.sq m M (z:=z) (mC.2 ⟨ad,by rw[<-ew];exact hw.imp Eq.symm Eq.symm⟩) ab a_
 have other:∀w:Int,0<=Bq X.S.g w->¬w=z->∀j:Nat,((X.S.G8 z x.off (Be p)).dr.dv.zs w.toNat).l[j]? = (X.S.dr.dv.zs w.toNat).l[j]?:=fun w dw ne j=>(zs w.toNat).2 j fun y=>ne (Kg sm dw dz y.1)
 have u:¬x.Ai=x.Aw:=fun y=>hd (by rw[y])
 have af:∀i,i<3->¬X.cur i=z:=fun i t y=>by
  obtain⟨a1,a2,a3,_⟩:=c.arz z ⟨i,t,.inl y.symm⟩;rcases l.wh with⟨u1,u2⟩|⟨u1,u2⟩
  ·rcases G with rfl|rfl
   ·exact a1 u1
   ·exact a2 u2
  ·have cz:X.closed z=true:=by rcases G with rfl|rfl<;>assumption
   have:=(El.1 cz).2.2.2.2.1;rw[(c.Vx z).2 ⟨i,t,.inl y.symm⟩]at this;cases this
 have nil:∀i,(X.S.dr.dv.zs i).l = []->((X.S.G8 z x.off (Be p)).dr.dv.zs i).l = []:=fun i y=>by
  have:=(zs i).1.2;rw[y]at this;exact List.eq_nil_of_length_eq_zero this
 have calm:Calm (X.S.G8 z x.off (Be p)):=by
  have q:=c.c;refine⟨{ toWp:=⟨q.wf.sm,q.wf.ps⟩,op:=q.wf.op },q.rt,q.ev,by rw[zD];exact q.up,by rw[W];exact q.n,by rw[zS];exact q.size,by rw[zO];exact q.op,q.bad,q.nd,fun d hd x M=>?_,?_,fun i t h=>?_⟩
  ·have:=q.fr d hd x M
   exact⟨nil _ this.1,by rw[(zs _).1.1];exact this.2⟩
  ·refine q.opn.imp id fun⟨y1,y2,y3,y4,y5,y6,y7⟩=>⟨y1,y2,y3,y4,y5,y6,fun w hw=>?_⟩
   rw[(zs _).1.1,(zs _).1.2];exact y7 w hw
  ·rw[W]at t;rw[(zs _).1.1]at h
   exact q.few i t h
 refine⟨zh,o0,a_,⟨calm,c.un,c.ar,fun w hw=>?_,fun i t=>?_,c.opm,c.len,c.lb,fun C a ag m H=>?_,c.sq,c.nm,c.hd.imp id fun h i t=>?_⟩,J.sq.es rfl,J.fr⟩
 ·have:=c.arz w hw
  exact⟨this.1,this.2.1,this.2.2.1,by show ¬((X.S.G8 z x.off (Be p)).dr.dv.zs w.toNat).st=1;rw[(zs _).1.1];exact this.2.2.2⟩
 ·have t:i<(X.S.G8 z x.off (Be p)).dr.dv.n:=t
  rw[W]at t;have:=c.s2 i t;show((X.S.G8 z x.off (Be p)).dr.dv.zs i).st<=2/\(((X.S.G8 z x.off (Be p)).dr.dv.zs i).st=0->((X.S.G8 z x.off (Be p)).dr.dv.zs i).l = []);rw[(zs _).1.1];exact⟨this.1,fun y=>nil _ (this.2 y)⟩
 ·rcases c.Av4 C a ag m H with y|y
  ·exact .inl y
  ·right
   by_cases hb:C=b
   ·subst hb
    rw[M]at m;cases m;rw[hL]at H;cases H;refine⟨l.st,l.ok,⟨e,V,eb,ek,eo,es,?_,?_⟩,l.m1,l.m2,l.wh⟩
    ·rcases G with rfl|rfl
     ·refine .inr ⟨rfl,bad,?_⟩
      unfold Aqk;show((X.S.G8 x.Ai x.off (Be p)).dr.dv.zs x.Aw.toNat).l[x.off.toNat]? = _;rw[other _ d2 (cR u)];exact U
     ·left
      unfold Aqk;show((X.S.G8 x.Aw x.off (Be p)).dr.dv.zs x.Ai.toNat).l[x.off.toNat]? = _;rw[other _ d1 u];exact T
    ·rcases G with rfl|rfl
     ·left
      unfold Aqk;show((X.S.G8 x.Ai x.off (Be p)).dr.dv.zs x.Aw.toNat).l[x.off.toNat]? = _;rw[other _ d2 (cR u)];exact U
     ·refine .inr ⟨rfl,bad,?_⟩
      unfold Aqk;show((X.S.G8 x.Aw x.off (Be p)).dr.dv.zs x.Ai.toNat).l[x.off.toNat]? = _;rw[other _ d1 u];exact T
   ·obtain⟨n1,n2,_⟩:=mz y.ok
    have k1:=F1 C a _ hb m y.st (.inl rfl) (G6 n1).1 (G6 n1).2.1;have k2:=F1 C a _ hb m y.st (.inr rfl) (G6 n2).1 (G6 n1).2.1;exact⟨y.st,y.ok,y.rc.F1 False.elim (fun v h=>by show((X.S.G8 z x.off (Be p)).dr.dv.zs a.Ai.toNat).l[a.off.toNat]? = _;rw[k1];exact h) (fun v h=>by show((X.S.G8 z x.off (Be p)).dr.dv.zs a.Aw.toNat).l[a.off.toNat]? = _;rw[k2];exact h),y.m1,y.m2,y.wh⟩
 ·refine(h i t).same rfl (dF fun j=>?_)
  have:=(c.ar i t).1;exact other _ a_ (af i t) j
end
structure mD where
 kind:Int
 x:Int
 y:Int
 ev:Evt
def mD.cells(o:mD):List EV:=[I o.kind,I o.x,I o.y]++o.ev.cells
theorem mD.len {o:mD}(w:o.ev.Wf):o.cells.length=71:=by
 unfold mD.cells;rw[aF,Evt.Bh w];rfl
theorem Btw(n:Int):Dl .u8 n=Int.ofNat (wb n):=by
 rw[Nw];unfold wb;have a:IntKind.u8.wrap n=n%256:=rfl;rw[a];show _=(((n%256).toNat:Nat):Int);omega
theorem Btv(A:Bu disp)(hK:3000000<K)(C:Cx h B X F)(J:Jc (fun _=>False) X L mt)(hg:X.gen+1100<=281474976710655)(u:X.nx+70000<=281474976710655)
 {o:mD} (w:o.ev.Wf) (k1:o.kind=1) (vs:EV) (hd:33<=d) :
 Ok (Ag TT disp K d false 6 [.agg o.cells,.ptr B.c 0,vs] h) fun v h'=>∃(G:Int) (Y:Co) (H:List (List Nat)) (mt':Int->Int),v=.tuple [.bool false,I G]/\E1 h h' B X F Y/\Jc (fun _=>False) Y H mt'/\iL X Y:=by
 obtain⟨e,rfl⟩:=d_ d;rw[Ajr A a_];simp only[NV,Aa];have ol:=mD.len w;obtain⟨h1,M,x1,a,n1⟩:=nW h (.cells o.cells 33);rw[M];have P:=C.Xe x1;rw[Aj a rfl (v:=I o.kind) rfl];simp only[I,Ac];rw[aO k1];simp only[Aa,As];have lt:h.next<h1.next:=a_
 rw[Hl lt,Aj a rfl (v:=I o.x) rfl]
 try simp only[Aa,As]
 rw[Hl lt,Aj a rfl (v:=I o.y) rfl];simp only[Aa,As,I,FU];rw[Btw];refine Ok.bE (Bm3 (K:=K) a_ (wb o.y) P.C.lift.hb) (fun _ _ p=>p.2.1) ?_;rintro _ ag h2 ⟨rfl,xf,ah⟩ sm x2;have m:=P.trans (P.C.Xe x2);have wf:(⟨o.x,List.replicate 32 (wb o.y)⟩:Wr).Wf:=⟨bR,fun b hb=>by rw[bO hb];exact Bs3 _⟩;rw[show EV.int .i64 o.x=I o.x from rfl,Ay (Bsq _ (by simp))];generalize (⟨o.x,List.replicate 32 (wb o.y)⟩:Wr)=W at wf⊢;simp only[Aa,As];rw[Xb (v:=.agg W.cells) rfl (by simp) (Wr.len wf),Au];have aj:=m.hb;obtain⟨t,M,x3,g3,n3⟩:=nW h2 (.cells (EV.cells (.agg W.cells)) 86);rw[M];have q3:=m.trans (m.C.Xe x3);have C3:Cx t.lift B X (fun i=>F i\/i=h2.next):=by
  refine((m.C.ext x3).less fun i T=>?_).lift;rcases T with T|rfl
  ·exact .inl T
  ·exact .inr ⟨a_,a_⟩
 have WA:j9 t.lift (.slice h2.next 0 1 1 false) h2.next [W]:=by
  refine⟨.inr ⟨0,1,false,rfl,fun j hj k=>?_⟩,fun x u=>by rw[aP.1 u];exact wf⟩;have:j=0:=by simpa using hj
  subst this;have U:t.lift.get h2.next=some (.cells W.cells 86):=by rw[Bx];exact g3
  exact Cp U rfl (Ak (Wr.len wf))
 refine Ok.bC (S:=fun j=>¬(F j\/j=h2.next)) (A67 A hK (F:=fun i=>F i\/i=h2.next) (fun _=>.inr rfl) (by simp) (d:=e) a_ C3 J hg u WA) (fun _ _ p=>by obtain⟨_,_,_,_,_,c,_⟩:=p;exact c.k) ?_;rintro _ aw h4 s' ⟨G,Y,H,mt',rfl,c4,j4,o4,w4⟩ V aa az;have c5:E1 t h4 B X F Y:=⟨(c4.C.same V).less fun _=>.inl,Kf.less (F:=fun j=>F j\/j=h2.next) aa fun _=>.inl,c4.ck⟩;exact .ret ⟨G,Y,H,mt',rfl,q3.trans c5,j4,o4⟩
theorem A93(A:Bu disp)(hK:10000<K)(C:Cx h B X F)(hd:4<=d):∃D V:Nat,Bn K (.ptr B.m 0) h=some (.ptr D 0,h)/\Cw K (.ptr D 0) h=some (.ptr V 0,h)/\∀(z off:Int) {p:List EV},p.length=64->U8 p->X.S.dr.dv.has z=true->0<=off->off<(X.S.dr.dv.zs z.toNat).l.length ->
 Ok (Ag TT disp K d false 12 [.ptr V 0,I z,I off,.agg p] h) fun v h'=>v=I 0/\E1 h h' B X F { X with S:=X.S.G8 z off p }:=by
 obtain⟨lt,D,p,bl,ql,np,U,W,G,a⟩:=C.M.s;obtain⟨V,M',qc,qh,cs,hs,ms,F',e⟩:=a.drv.Ph;refine⟨D,V,Q0 a.H5,xj e,fun z off {p'} hp up u h0 H=>?_⟩;refine(VM (K:=K) A hd e.dev C.hb a_ z off hp up).mono ?_;rintro _ h3 ⟨⟨n,rfl,J⟩,d3,c3,j⟩;have:=J.2 ⟨u,h0,H⟩;subst this;obtain⟨P,t⟩:=a.drv.put e C.hb d3 c3;obtain⟨M2,T⟩:=C.M.drv C.hb a P t;refine⟨rfl,C.H5 M2 T j ⟨rfl,?_⟩⟩;unfold Mi.G8 Dv.G8;split<;>exact⟨rfl,rfl,rfl,rfl⟩
theorem A5p(A:Bu disp)(hK:10000<K)(hd:8<=d)(hn:n<=600){ar m:Nat}(W:F ar){S0:Mi}(b0:∀z,S0.bad z=0):∀(f i:Nat) (h:Ab),n-i<f->i<=n->Da h m (S0.jR cur Bt i) F->HB h->h.get ar=some (.cells (arC m cur Bt) 124)->Kf F h0 h ->
 (∀h',Da h' m (S0.jR cur Bt n) F->Kf F h0 h'->HB h'->Ok (Gu (Ag TT disp K d false) (Ag TT disp K d true) K (.ptr m 0) (.ptr b 0) (.ptr ar 0) h') Q) ->
 Ok (Eh (Ag TT disp K d false) (Ag TT disp K d true) K f (.ptr m 0) (.ptr b 0) (.ptr ar 0) (I n) (I i) h) Q:=by
 intro f;induction f with
 | zero=>intro i h hf;omega
 | succ f ih=>
  intro i h hf hi M hb P k S;rw[Eh];simp only[I,Ac];by_cases ab:i<n
  ·have:decide ((i:Int)<(n:Int))=true:=by simp;omega
   simp only[this,Aa,Ua];have T:=EA (K:=K) A (d:=d) a_ a_ P hb (i:Int);simp only[I]at T;refine T.Am ?_;rintro _ h2 ⟨rfl,G,e⟩;have M2:=(M.ext hb G).less fun j (hj:F j)=>Or.inl hj
   have u:=G.at hb P;have U:=k.trans (Ext.kf G);have nx:∀a,Da a m (S0.jR cur Bt (i+1)) F->HB a->a.get ar=some (.cells (arC m cur Bt) 124)->Kf F h0 a->Ok (Ng (Ag TT disp K d false) (Ag TT disp K d true) K (Eh (Ag TT disp K d false) (Ag TT disp K d true) K f) (.ptr m 0) (.ptr b 0) (.ptr ar 0) (.int .i64 (n:Int)) (.int .i64 (i:Int)) a) Q:=fun a H t J C=>by
    simp only[Ng,Ac];rw[Ch,show((i:Nat):Int)+1=((i+1:Nat):Int) from a_];exact ih (i+1) a a_ a_ H t J C S
   have e1:S0.jR cur Bt (i+1)=if Vx cur Bt i=true then S0.jR cur Bt i else(S0.jR cur Bt i).iP i:=rfl
   cases V:Vx cur Bt i with
   | true=>
    simp only[Aa];exact nx h2 (by rw[e1,aI V];exact M2) e u U
   | false=>
    simp only[Aa];obtain⟨p,e2,e3⟩:=TS M2 e A hK;rw[e2,Au];refine Ok.Am (e3 hd (z:=(i:Int)) ⟨a_,a_⟩ fun _=>by rw[(qj cur Bt S0 i).1,b0];decide) ?_;rintro _ a ⟨rfl,H,C,t⟩;exact nx a (by rw[e1,aG (by rw[V];decide)];exact H) t (C.at e u W) (U.trans C)
  ·have:decide ((i:Int)<(n:Int))=false:=by simp;omega
   simp only[this,Aa];have:i=n:=a_
   subst this;exact S h M k hb
theorem A3a(A:Bu disp)(hK:10000<K)(hd:8<=d)(hr:rtB g=true)(hb:HB h){v1 m ll L:Nat}(g1:h.get v1=some (.cells (gL g) 23))(mp:Oh h b ml ll g (List.replicate g.B.toNat (Me.nil 0)))(lb:L<=b/\L<=ml/\L<=ll)(M:Da h m (Mi.new g) (fun i=>i<L\/i=b\/i=ml\/i=ll))(lv:v1<L)
 (hk:∀h' ar,L<=ar->Da h' m (Co.start g).S (fun i=>i<L\/i=b\/i=ml\/i=ll\/i=ar)->h'.get ar=some (.cells (arC m (Fp g) (Ft g)) 124)->Oh h' b ml ll g (List.replicate g.B.toNat (Me.nil 0))->Kf (fun i=>i<L) h h'->HB h'->Ok (Gu (Ag TT disp K d false) (Ag TT disp K d true) K (.ptr m 0) (.ptr b 0) (.ptr ar 0) h') Q) :
 Ok (Mh (Ag TT disp K d false) (Ag TT disp K d true) K (.ptr v1 0) (.ptr m 0) (.ptr b 0) h) Q:=by
 have s:=Jp hr;have zz:=xD hr;have:=s.d0;have:=s.d1;have:=s.z0;have:=s.z1;have:=s.p0;obtain⟨m0,m1⟩:=Rl (a:=g.D) (b:=g.Z) (A:=8) (B:=64);simp only[Mh,dr];refine(A9x (K:=K) a_ hb m).Am ?_;rintro _ h2 ⟨rfl,ga,x2,u⟩;have la:=u _ _ ga;have lm:h.next<=h.next:=aE _
 have l1:=hb _ _ g1;have l3:=hb _ _ mp.map;have l4:=hb _ _ mp.row;have l5:=hb _ _ mp.live;have M2:Da h2 m (Mi.new g) (fun i=>i<L\/i=b\/i=ml\/i=ll\/i=h.next):=(M.ext hb x2).less fun i t=>by
  rcases t with t|t|t|t|t
  ·exact .inl (.inl t)
  ·exact .inl (.inr (.inl t))
  ·exact .inl (.inr (.inr (.inl t)))
  ·exact .inl (.inr (.inr (.inr t)))
  ·exact .inr ⟨a_,a_⟩
 have hL:L<=h.next:=a_
 have W:=x2.at hb g1;generalize h.next=ar at *
 have fa:(fun i=>i<L\/i=b\/i=ml\/i=ll\/i=ar) ar:=.inr (.inr (.inr (.inr rfl)));have st:∀(i:Nat) (C:Ab) (c o:Nat->Int) (n:Nat),i<3->Da C m (Mi.new g) (fun i=>i<L\/i=b\/i=ml\/i=ll\/i=ar)->HB C->C.get ar=some (.cells (arC m c o) 124)->Av (fun j=>j=ar) h2 C ->
  (∀h4,Da h4 m (Mi.new g) (fun i=>i<L\/i=b\/i=ml\/i=ll\/i=ar)->HB h4->h4.get ar=some (.cells (arC m (Mn c i (i*g.Z)) (Mn o i (i*g.Z+1))) 124)->Av (fun j=>j=ar) h2 h4->Ok (Dj (Ag TT disp K d false) (Ag TT disp K d true) K n (.ptr v1 0) (.ptr m 0) (.ptr b 0) (.ptr ar 0) (I (i+1:Nat)) h4) Q) ->
  Ok (Dj (Ag TT disp K d false) (Ag TT disp K d true) K (n+1) (.ptr v1 0) (.ptr m 0) (.ptr b 0) (.ptr ar 0) (I i) C) Q:=by
  intro i C c o n t M3 H J c3 hk;rw[Dj];simp only[I,Ac];have:decide ((i:Int)<3)=true:=by simp;omega
  simp only[this,Aa,T9];have ag:=c3.at u W (by show ¬v1=ar;omega);have ld:∀k:EV->R,Iy (.ptr v1 1) C k=k (I g.Z):=fun k=>Aj ag rfl rfl
  obtain⟨a0,a1⟩:=Rl (a:=(i:Int)) (b:=g.Z) (A:=3) (B:=64);simp only[ld,I,Ac];rw[Ch,Ch];have d1:=Sl s (i:=i) (k:=0);have d2:=Sl s (i:=i) (k:=1);rw[Int.add_zero]at d1;have so:=ZY (K:=K) M3 H J fa t (v:=i*g.Z) (w:=i*g.Z+1) (.inr d1) (.inr d2) a_;simp only[I]at so;refine so.Am ?_;rintro _ h4 ⟨rfl,M4,P,c4,T⟩;simp only[Uh,Ac];rw[Ch,show((i:Nat):Int)+1=((i+1:Nat):Int) from a_];exact hk h4 M4 T P (c3.trans c4)
 obtain⟨K',rfl⟩:∃k,K=k+4:=⟨K-4,a_⟩;refine st 0 h2 _ _ _ a_ M2 u ga (Av.refl _) fun C M3 H J c3=>st 1 C _ _ _ a_ M3 H J c3 fun h4 M4 T P c4=>st 2 h4 _ _ _ a_ M4 T P c4 fun h5 M5 G U c5=>?_
 rw[Dj];simp only[I,Ac];simp only[show decide (((2+1:Nat):Int)<3)=false from rfl,Aa,Nd];have ai:=c5.at u W (by show ¬v1=ar;omega);rw[Cz ai rfl,Ak (n:=6) rfl]
 try simp only[Aa]
 rw[show EV.agg (gL g)=gV g from rfl,N8 s,Au];obtain⟨n,hn⟩:=av (show 0<=g.D*g.Z from a_);rw[hn];obtain⟨h6,e_,x6,_,_⟩:=nW h5 (.cells (gL g) 23);rw[e_];have V:=x6.hb G;have cc:Mn (Mn (Mn (fun _=>-1) 0 ((0:Nat)*g.Z)) 1 ((1:Nat)*g.Z)) 2 ((2:Nat)*g.Z)=Fp g:=by
  unfold Fp;rw[show(((0:Nat):Int))*g.Z=0 from Int.zero_mul _,show(((1:Nat):Int))*g.Z=g.Z from Int.one_mul _];rfl
 have co:Mn (Mn (Mn (fun _=>-1) 0 ((0:Nat)*g.Z+1)) 1 ((1:Nat)*g.Z+1)) 2 ((2:Nat)*g.Z+1)=Ft g:=by
  unfold Ft;rw[show(((0:Nat):Int))*g.Z=0 from Int.zero_mul _,show(((1:Nat):Int))*g.Z=g.Z from Int.one_mul _];rfl
 rw[cc,co]at U;have M6:=(M5.ext G x6).less (F':=fun i=>i<L\/i=b\/i=ml\/i=ll\/i=ar) fun j hj=>Or.inl hj
 refine A5p (S0:=Mi.new g) (cur:=Fp g) (Bt:=Ft g) (h0:=h6) A hK hd (n:=n) a_ fa (fun _=>rfl) (K'+4) 0 h6 a_ a_ M6 V (x6.at G U) (Av.refl _) fun h7 M7 k7 aq=>?_
 have ca:Av (fun j=>j=ar) h2 h6:=c5.trans (Ext.to x6);have kp:∀i o,i<ar->(i<L\/i=b\/i=ml\/i=ll)->h.get i=some o->h7.get i=some o:=fun i o t hf e=>k7.at V (ca.at u (x2.at hb e) (by show ¬i=ar;omega)) (by
  rcases hf with y|y|y|y
  ·exact .inl y
  ·exact .inr (.inl y)
  ·exact .inr (.inr (.inl y))
  ·exact .inr (.inr (.inr (.inl y))))
 refine hk h7 ar hL ?_ (k7.at V (x6.at G U) fa) ⟨kp _ _ l3 (.inr (.inl rfl)) mp.map,kp _ _ l4 (.inr (.inr (.inl rfl))) mp.row,kp _ _ l5 (.inr (.inr (.inr rfl))) mp.live,mp.len,mp.ok⟩ ?_ aq
 ·show Da h7 m ((Mi.new g).jR (Fp g) (Ft g) (g.D*g.Z).toNat) _
  rw[hn];exact M7
 ·refine(Ext.kf x2).trans ((ca.mono fun i t y=>?_).trans (k7.less fun i t=>.inl t))
  have y:i<L:=y;have t:i=ar:=t;omega
theorem Jc.ckp(J:Jc (fun _=>False) X L mt)(c:Cc (fun _=>False) Y L mt)(k:lj X Y):Jc (fun _=>False) Y L mt/\iL X Y:=by
 have f:=(k.free J.c).1;have g:=k.g;have n:=k.nm;have fr:=J.fr;exact⟨⟨c,J.sq.es k.es,by rw[g];omega⟩,⟨g,⟨n.2.1,n.2.2.2⟩,a_,a_⟩⟩
theorem VN(A:Bu disp)(hK:10000<K)(hd:22<=d)(g:Gm)(hb:HB h):Ok (Ag TT disp K d false 5 [gV g] h) fun v h'=>Kf (fun i=>i<h.next) h h'/\HB h'/\if rtB g=true/\g.D*g.Z<=64 then ∃B Y,v=.ptr B.c 0/\Cx h' B Y (fun i=>i<h.next)/\h.next<=B.c/\Jc (fun _=>False) Y (pR g) (fun _=>-1)/\iL (Co.start g) Y/\Y.gen=1 else v=.Cl:=by
 obtain⟨e,rfl⟩:=d_ d;rw[Afu A a_];simp only[Xm,gV,Aa];obtain⟨h1,e_,x1,g1,n1⟩:=nW h (.cells (gL g) 23);rw[e_];have ai:=x1.hb hb;rw[Cz g1 rfl,Ak (n:=6) rfl]
 try simp only[Aa]
 rw[show EV.agg (gL g)=gV g from rfl];refine(Bio g a_ h1).Am ?_;rintro _ h3 ⟨rfl,x3⟩;have u:=x3.hb ai;have ab:Ext h h3:=x1.trans x3;have b5:Eu (.tuple []) false=false/\Eu (.tuple []) true=false:=⟨rfl,rfl⟩;cases hr:rtB g with
 | false=>
  simp only[Aa,Ac,H8];exact .ret ⟨Ext.kf ab,u,by rw[aG (fun y=>by cases y.1)]⟩
 | true=>
 have s:=Jp hr;have:=s.d0;have:=s.d1;have:=s.z0;have:=s.z1;have:=s.s0;have:=s.s1;have:=s.o0;have:=s.o1;obtain⟨m0,m1⟩:=Rl (a:=g.D) (b:=g.Z) (A:=8) (B:=64);have m2:3<=g.D*g.Z:=by
  have:3*1<=g.D*g.Z:=Int.mul_le_mul a_ a_ a_ a_;omega
 have T:=x3.at ai g1;simp only[Aa,Ac,Cy T rfl,gL,I];rw[Ch];by_cases aj:64<g.D*g.Z
 ·simp only[aj,aC,Aa,Ac,H8]
  exact .ret ⟨Ext.kf ab,u,by rw[aG (fun y=>by omega)]⟩
 simp only[aj,aA,Aa,Ac,H8,Tf,As];have l3:=u _ _ T;rw[Hl l3,Cz T rfl,Ak (n:=6) rfl]
 try simp only[Aa,As]
 rw[show EV.agg (gL g)=gV g from rfl];refine Ok.bE (P:=fun v h'=>v=I (g.D*g.Z)/\Ext h3.lift h') ⟨_,_,N8 s _,rfl,Av.new _ _⟩ (fun _ _ p=>p.2) ?_;rintro _ _ h4 ⟨rfl,_⟩ _ x4;have ad:=x4.hb u;have ae:=x4.at u T;rw[Hl l3,Aj ae rfl (v:=I g.S) rfl]
 try simp only[Aa,As]
 rw[Hl l3,Aj ae rfl (v:=I g.O) rfl]
 try simp only[Aa,As]
 have a2:tK (g.D*g.Z) g.S g.O=true:=by
  unfold tK;rw[Fk.2 ⟨a_,a_⟩,Fk.2 ⟨a_,a_⟩,Fk.2 ⟨a_,a_⟩];rfl
 refine Ok.bE (A6z (K:=K) a2 a_ (C8 ad)) (fun _ _ p=>by obtain⟨_,_,_,_,_,_,x,_⟩:=p;exact x) ?_;rintro _ b6 h5 ⟨D,V,M,a3,z,rfl,_,_,dr,nd⟩ sm x5;have G:=x5.hb ad;have dr:=dr.ext (h':=h5) fun i o g=>by rw[sm.get];exact g
 have af:=x5.at ad ae;have b7:h4.lift.next=h4.next:=rfl
 simp only[Aa,I,Ac,aB,aA,S9,As];have l5:=G _ _ af;rw[Hl l5,Cz af rfl,Ak (n:=6) rfl]
 try simp only[Aa,As]
 rw[VO (v:=Us) (by kernel_rfl) (by kernel_rfl) rfl];have a4:oO h5.lift D V M a3 (g.D*g.Z).toNat z (fun _=>0) g.S g.O 0 false .Aq .Aq [] (fun _=>Zn.empty):=dr.ext fun i o g=>by rw[Bx];exact g
 rw[show EV.agg (gL g)=gV g from rfl];refine Ok.bE (A26 (K:=K) (g:=g) a_ (C8 G) a4) (fun _ _ p=>p.1) ?_;rintro v a5 h6 ⟨_,_,hv⟩ a6 x6;have U:=x6.hb G;rw[aI ⟨hr,a_,rfl⟩]at hv;obtain⟨m,p,bl,ql,q,c,rfl,MA,PA,nm⟩:=hv;have k6:∀i o,a5.get i=some o->h6.get i=some o:=fun i o g=>by rw[a6.get];exact g
 have t1:=x1.next;have t3:=x3.next;have t4:=x4.next;have t5:=x5.next;have t6:=x6.next
 have ch:h5.lift.next=h5.next:=rfl
 have M6:=Bpn s (h0:=h4) U (dr.ext fun i o g=>x6.at G g) ⟨⟨a_,a_⟩,a_,a_,nd.2.2.2⟩ (MA.ext k6) (PA.ext k6) ⟨⟨a_,a_⟩,a_,a_,fun d hd=>by have:=nm.2.2.2 d hd;omega⟩ a_;have ao:=x6.at G af;simp only[Aa,I,Ac];rw[Cz ao rfl,Ak (n:=6) rfl]
 try simp only[Aa]
 rw[show EV.agg (gL g)=gV g from rfl];refine(FJ (K:=K) hr U).Am ?_;rintro _ h7 ⟨b,ml,ll,rfl,mp,x7,W,lb,cv,cw⟩;simp only[Aa,I,Ac,aB,aA,S8];have cx:=W _ _ mp.map;have cz:=W _ _ mp.row;have cA:=W _ _ mp.live;have M7:Da h7 m (Mi.new g) (fun i=>i<h4.next\/i=b\/i=ml\/i=ll):=(M6.ext U x7).less fun i j=>by
  rcases j with j|j|j|j
  ·exact .inl j
  ·exact .inr ⟨a_,a_⟩
  ·exact .inr ⟨a_,a_⟩
  ·exact .inr ⟨a_,a_⟩
 have a8:Ext h h7:=(((ab.trans x4).trans x5).trans x6).trans x7;refine A3a (K:=K) A hK (d:=e) a_ hr W (v1:=h.next) (L:=h4.next) (x7.at U ao) mp ⟨a_,a_,a_⟩ M7 a_ fun H ar cG M8 aq aa k8 t=>?_
 simp only[Gu,dr];rw[Ay (l:=[I 0,I 1,I 1]) rfl]
 try simp only[Aa]
 rw[A80,Au];have x9:Ext H ((H.new (.cells [I 0,I 1,I 1] 81)).new (.cells [.ptr m 0,.ptr ar 0,.ptr b 0,I 0,I 1,I 1,.bool false] 91)):=(Av.new _ _).Db _;have g9:((H.new (.cells [I 0,I 1,I 1] 81)).new (.cells [.ptr m 0,.ptr ar 0,.ptr b 0,I 0,I 1,I 1,.bool false] 91)).get (H.next+1)=some (.cells [.ptr m 0,.ptr ar 0,.ptr b 0,I 0,I 1,I 1,.bool false] 91):=Ad _ _;generalize (H.new (.cells [I 0,I 1,I 1] 81)).new (.cells [.ptr m 0,.ptr ar 0,.ptr b 0,I 0,I 1,I 1,.bool false] 91)=h9 at x9 g9⊢;have au:=x9.hb t;have l9:=au _ _ g9;have e2:(Co.start g).S.g=g:=(qj (Fp g) (Ft g) (Mi.new g) (g.D*g.Z).toNat).2.1;have c5:=t _ _ aq;have c6:=t _ _ aa.map;have c7:=t _ _ aa.row;have c8:=t _ _ aa.live;have t8:=k8.next
 have M9:=M8.ext t x9;have bf:Kf (fun i=>i<h.next) h h9:=(Ext.kf a8).trans ((k8.trans (Ext.kf x9)).mono fun i j y=>j (by have y:i<h.next:=y;show i<h4.next;omega));have C9:Cx h9 ⟨H.next+1,ar,m,b,ml,ll⟩ (Co.start g) (fun i=>i<h.next):=by
  refine⟨M9.less fun i j=>?_,g9,x9.at t aq,?_,Co.Bnp hr,fun i j y=>?_,au⟩
  ·rcases j with j|j|j|j|j|j
   ·exact .inl (.inl (show i<h4.next by have j:i<h.next:=j;omega))
   ·exact .inr ⟨by have j:i=H.next+1:=j;omega,by have j:i=H.next+1:=j;omega⟩
   ·exact .inl (.inr (.inr (.inr (.inr j))))
   ·exact .inl (.inr (.inl j))
   ·exact .inl (.inr (.inr (.inl j)))
   ·exact .inl (.inr (.inr (.inr (.inl j))))
  ·show Oh h9 b ml ll (Co.start g).S.g _
   rw[e2];exact aa.ext fun i o g=>x9.at t g
  ·have j:i<h.next:=j
   rcases y with y|y|y|y|y
   ·have y:i=H.next+1:=y;omega
   ·have y:i=ar:=y;omega
   ·have y:i=b:=y;omega
   ·have y:i=ml:=y;omega
   ·have y:i=ll:=y;omega
 have J:=Blk (E:=fun _=>False) hr
 try simp only[Aa]
 refine Ok.Am (zB A hK C9 J.c (by show(0:Int)<_;decide) (by show(1:Int)<=_;decide) (d:=e)) ?_;rintro _ db ⟨rfl,Y,ag,cy,ky⟩;obtain⟨jy,oy⟩:=J.ckp cy ky;simp only[I,Ac,aB,aA,Aa,Ui];refine .ret ⟨bf.trans ag.k,ag.hb,?_⟩;rw[aI ⟨trivial,a_⟩];exact⟨⟨H.next+1,ar,m,b,ml,ll⟩,Y,rfl,ag.C,by show h.next<=H.next+1;omega,jy,oy,ky.nm.1⟩
theorem VP(S:Nat)(k:EV->R):K3 iT (bin TT .eql 26) (.ptr S 0) .Cl k=k (.bool false):=by kernel_rfl
def An(q:Nat)(B:Cb)(F:Nat->Prop)(i:Nat)(h0 h:Ab):Prop:=∃(mt:Int->Int) (X:Co) (s:Sb),Cx h B X F/\Jc (fun _=>False) X (pR ⟨3,8,8,1,0,4⟩) mt/\ji h q B.c s/\Sk s X.S.g.B i/\s.cu=i%4/\s.st=i/\s.de=false/\X.gen<=1100*(i+1)/\X.nx<=1+70000*(i+1)/\X.S.g.B=1/\1<=X.gen/\Av (fun i=>¬F i\/i=q) h0 h
theorem VQ(A:Bu disp)(hK:10000<K)(hd:31<=d)(m:F q)(S:i<4)(p:An q B F i h0 h):Ok (Ag TT disp K d false 15 [.ptr q 0] h) fun v h'=>v=.tuple [.bool (decide (i=3)),I 0]/\An q B F (i+1) h0 h':=by
 obtain⟨mt,X,s,C,J,g,k,cu,st,de,bg,T,j,ge,t⟩:=p;refine(VG A hK C J m g ge k a_ a_ a_ hd).mono ?_;rintro _ h' ⟨ok,Y,s',mt',rfl,u,x,G,H,M,o,⟨e,st',a⟩,P⟩;have hok:ok=true:=by
  cases ok with
  | true=>rfl
  | false=>obtain⟨_,y⟩:=P rfl;exact y.elim
 subst hok;rw[de,dV]at a;have a:s'.de=false:=a;rw[j,cu]at e;have gg:=o.g;have U:=o.gen;have on:=o.nx;refine⟨by rw[a,show decide (s'.cu=0)=decide (i=3)from eJ.2 a_];simp,mt',Y,s',u,M.mono (fun _ _ _ y=>y.1.elim),G,by rw[gg];exact H,a_,a_,a,a_,a_,by rw[gg];exact j,a_,t.trans x⟩
theorem Bdj(A:Bu disp)(hK:10000<K)(hd:33<=d)(hb:HB h):Ok (Ag TT disp K d false 4 [] h) fun v h'=>v=.bool true/\Kf (fun i=>i<h.next) h h'/\HB h':=by
 obtain⟨e,rfl⟩:=d_ d;rw[Ahq A a_];simp only[Z6,Aa];rw[Ay (l:=gL ⟨3,8,8,1,0,4⟩) rfl]
 try simp only[Aa]
 refine(VN (K:=K) A hK (d:=e) a_ ⟨3,8,8,1,0,4⟩ hb).Am ?_;rintro v h2 ⟨H,V,J⟩;rw[aI ⟨by kernel_rfl,c_⟩]at J;obtain⟨B,Y,rfl,W,lB,jY,M,gY⟩:=J;rw[VP];simp only[Aa,Vm,qA];rw[Ay (l:=(⟨0,false,0,0,0,0,0⟩:Sb).cells B.c) rfl];simp only[Aa];have t:Ext h2 (h2.new (.cells ((⟨0,false,0,0,0,0,0⟩:Sb).cells B.c) 109)):=Av.new _ _;have P:ji (h2.new (.cells ((⟨0,false,0,0,0,0,0⟩:Sb).cells B.c) 109)) h2.next B.c ⟨0,false,0,0,0,0,0⟩:=Ad _ _
 have t2:=H.next
 have hq:h.next<=h2.next:=t2
 have T:Cx (h2.new (.cells ((⟨0,false,0,0,0,0,0⟩:Sb).cells B.c) 109)) B Y (fun i=>i<h.next\/i=h2.next):=(W.ext t).less fun i a=>by
  rcases a with a|rfl
  ·exact .inl a
  ·exact .inr ⟨aE _,aN _⟩
 generalize h2.new (.cells ((⟨0,false,0,0,0,0,0⟩:Sb).cells B.c) 109)=m at t P T⊢;generalize h2.next=q at *
 have U:(fun i=>i<h.next\/i=q) q:=.inr rfl;have ab:=M.nx;have ad:(Co.start ⟨3,8,8,1,0,4⟩).nx=1:=rfl;have gg:Y.S.g.B=1:=by rw[M.g,show(Co.start ⟨3,8,8,1,0,4⟩).S.g=_ from(qj (Fp ⟨3,8,8,1,0,4⟩) (Ft ⟨3,8,8,1,0,4⟩) (Mi.new ⟨3,8,8,1,0,4⟩) _).2.1];rfl
 have p0:An q B (fun i=>i<h.next\/i=q) 0 m m:=⟨_,Y,_,T,jY,P,⟨cN _,by rw[gg];decide,rfl,cN _,cN _⟩,rfl,rfl,rfl,a_,a_,gg,a_,Av.refl _⟩;have ae:Eu (.tuple []) false=false/\Eu (.tuple []) true=false:=⟨rfl,rfl⟩;have st:∀(i n:Nat) (h4:Ab),i<3->An q B (fun i=>i<h.next\/i=q) i m h4->(∀j,An q B (fun i=>i<h.next\/i=q) (i+1) m j->Ok (Eo (Ag TT disp K e false) (Ag TT disp K e true) K n (.ptr q 0) (I (i+1:Nat)) j) fun v h'=>v=.bool true/\Kf (fun i=>i<h.next) h h'/\HB h')->Ok (Eo (Ag TT disp K e false) (Ag TT disp K e true) K (n+1) (.ptr q 0) (I i) h4) fun v h'=>v=.bool true/\Kf (fun i=>i<h.next) h h'/\HB h':=fun i n h4 a p hk=>by
  rw[Eo];simp only[I,Ac];rw[aO (show(i:Int)<3 from a_)];simp only[Aa,Vc];refine(VQ A hK (d:=e) a_ U a_ p).Am ?_;rintro _ j ⟨rfl,u⟩;rw[aL (show ¬i=3 from a_)];simp only[Aa,Bz,I,Ac];simp only[aB,aA];simp only[Vn,Vl,Aa,Ac];rw[Ch,show((i:Nat):Int)+1=((i+1:Nat):Int) from a_];exact hk j u
 obtain⟨G,rfl⟩:∃k,K=k+4:=⟨K-4,a_⟩;refine st 0 (G+3) m a_ p0 fun h4 p4=>st 1 (G+2) h4 a_ p4 fun j u=>st 2 (G+1) j a_ u fun h6 p6=>?_
 rw[Eo];simp only[I,Ac];rw[show decide (((2+1:Nat):Int)<3)=false from rfl];simp only[Aa,Vf];refine(VQ A hK (d:=e) a_ U (i:=3) a_ p6).Am ?_;rintro _ h7 ⟨rfl,_,X,s,C,_,g,_,_,s4,_,_,_,_,_,ch⟩;simp only[Aa,Bz,I,Ac];simp only[aC,Ve,Aa,Bz,Kz];rw[Aj g rfl (v:=I s.st) rfl,s4];simp only[I,Ac];refine .ret ⟨rfl,(H.trans (Ext.kf t)).trans (ch.mono fun i a y=>?_),C.hb⟩;rcases a with a|rfl
 ·exact a (.inl y)
 ·have y:i<h.next:=y
  omega
def Fs(g:Gm)(q:Nat)(B:Cb)(F:Nat->Prop)(L:List (List Nat))(b i:Nat)(h0 h:Ab):Prop:=∃(mt:Int->Int) (X:Co) (s:Sb),Cx h B X F/\Jc (fun j=>j=b/\i<=b) X L mt/\ji h q B.c s/\Sk s X.S.g.B i/\s.cu=i%(g.B+3)/\s.st=i/\(g.B+3<i->s.de=false)/\X.S.g=g/\(1<=X.gen/\X.gen<=1100*(i+60))/\X.nx<=70000*(i+60)/\Av (fun i=>¬F i\/i=q) h0 h
theorem Bpq(A:Bu disp)(hK:10000<K)(hd:31<=d)(hb:(b:Int)<g.B)(hB:g.B<=256)(H:F q)(hi:(i:Int)<2*(g.B+3))(p:Fs g q B F L b i h0 h):Ok (Ag TT disp K d false 15 [.ptr q 0] h) fun v h'=>∃ok:Bool,v=.tuple [.bool ok,I 0]/\Fs g q B F L b (i+1) h0 h'/\(((i+1:Nat):Int)=2*(g.B+3)->ok=true):=by
 obtain⟨mt,X,s,C,J,M,k,cu,st,de,G,ge,nx,P⟩:=p;refine(VG A hK C J H M ge.1 k a_ a_ a_ hd).mono ?_;rintro _ h' ⟨ok,Y,s',mt',rfl,S,x,T,U,V,o,⟨a,st',u⟩,W⟩;have gg:=o.g;have og:=o.gen;have on:=o.nx;rw[G]at a;have hok:g.B+3<=i->ok=true:=fun y=>by
  cases ok with
  | true=>rfl
  | false=>obtain⟨j,_,w⟩:=W rfl;omega
 have m0:=fV (i:Int) (show g.B+3≠0 from a_);have m1:=gO (i:Int) (show 0<g.B+3 from a_);have md:=Int.mul_ediv_add_emod (i:Int) (g.B+3);have m:s'.cu=((i+1:Nat):Int)%(g.B+3):=by
  rw[a,cu,Int.emod_add_emod];congr 1
 have t:g.B+3<((i+1:Nat):Int)->s'.de=false:=fun y=>by
  rw[u,hok a_];by_cases e:(i:Int)=g.B+3
  ·rw[cu,e,Int.emod_self];rfl
  ·rw[de a_];simp
 have jj:Jc (fun j=>j=b/\i+1<=b) Y L mt':=V.mono fun j x bs e _ _ _ n=>absurd ⟨e.1.1,by
  obtain⟨⟨e1,e2⟩,e3⟩:=e;have:(i:Int)%(g.B+3)=i:=fm a_ a_;rw[cu,this]at e3;omega⟩ n
 refine⟨_,rfl,⟨mt',Y,s',S,jj,T,by rw[gg];exact U,m,a_,t,gg.trans G,a_,a_,P.trans x⟩,fun y=>?_⟩;rw[m,y,t a_,Int.mul_emod_left];rfl
structure kO(h:Ab)(v:EV)(b:Nat)(l:List Int):Prop where
 row:(v=.Aq/\l = [])\/∃off r op,v=.slice b off l.length r op/\∀j (hj:j<l.length) (k:EV->R),Iy (.ptr b (off+j)) h k=k (I l[j])
theorem kO.frame{l:List Int}(r:kO h v b l)(e:h'.get b=h.get b):kO h' v b l:=by
 rcases r.row with y|⟨off,a,op,rfl,y⟩
 ·exact⟨.inl y⟩
 ·refine⟨.inr ⟨off,a,op,rfl,fun j hj k=>?_⟩⟩
  have:=y j hj k;show oB _ (mN (h'.get b) _ 1)=_;rw[e];exact this
theorem kO.Ip{l:List Int}(r:kO h v b l)(k:EV->R):Ev.Ip v k=k (I l.length):=by
 rcases r.row with⟨rfl,rfl⟩|⟨off,a,op,rfl,_⟩<;>rfl
theorem kO.at{l:List Int}(r:kO h v b l){j:Nat}(hj:j<l.length)(k:EV->R):iF 1 v (.int .i64 (j:Int)) (fun p=>Iy p h k)=k (I l[j]):=by
 rcases r.row with⟨rfl,rfl⟩|⟨off,a,op,rfl,y⟩
 ·exact absurd hj (cC _)
 ·rw[On hj,bc];exact y j hj k
theorem A7e(A:Bu disp)(hK:10000<K)(C:Cx h B X F)(hd:2<=d){j:Int}(hj:¬(0<=j/\j<X.es.length)):Ok (Ag TT disp K d false 13 [.ptr B.c 0,I j] h) fun v h'=>v=.tuple [.agg (Be Dt),I 13]/\E1 h h' B X F X:=by
 obtain⟨dd,rfl⟩:=d_ d;rw[Auk A a_];simp only[HA,Aa];rw[K4];obtain⟨h1,T,H,U,n1⟩:=nW h (.cells (Be Dt) 51);rw[T];have a:=C.ext H;rw[a.jc];refine Ok.Am (Oj (K:=K) a.sm a.map a.hb j) ?_;rintro _ h2 ⟨rfl,J⟩;have hf:U7 X.es j=(Me.nil 0,13):=by unfold U7;rw[aG hj]
 rw[hf];have V:∀k:EV->R,Bp (L8 1) (Be Dt) [] k=k (.agg (Be Dt)):=fun k=>Ay rfl
 simp only[Aa];refine Ok.mk rfl rfl fun M P e3 _=>?_
 have e:Ext h M:=(H.trans J).trans P;have m:=Ext.at (J.trans P) a.hb U;have G:=C.ext e;have t:=G.hb _ _ m;simp only[I,Ac];have u:¬(13:Int)=0:=c_
 simp only[u,aQ,aC,Aa,Ac,G_];rw[K4,V];have ul:(Be Dt).length=32:=by rw[Bi,oW]
 refine Ok.st (Be Dt) m rfl (by show Gk (Be Dt)=32;rw[Bg,ul]) (Bo rfl) ?_;rw[Em (Ae _ _ _) jH.1 jH.2 ul];exact .ret ⟨rfl,E1.xz e (E1.refl G) ((Av.refl (S:=fun i=>i=h.next) M).Ar (.inl rfl) t _) (fun i W=>by subst W;omega) (G.hb.put t _)⟩
def Wd(g:Gm)(h0 h:Ab)(B:Cb)(F:Nat->Prop)(i:Nat):Prop:=∃(X:Co) (L:List (List Nat)) (mt:Int->Int),Cx h B X F/\Jc (fun _=>False) X L mt/\X.S.g=g/\(1<=X.gen/\X.gen<=1100*(i+1))/\X.nx<=1+70000*(i+1)/\Av (fun i=>¬F i) h0 h
def zP:Evt:=⟨0,0,0,0,Uu⟩
theorem Bqi:zP.Wf:=⟨U8.zs,rfl⟩
theorem A83(A:Bu disp)(hK:3000000<K)(hd:33<=d)(hL:O.length<=40){a v2 v3 v4 u v6:EV}(P:F bo)(S:bo<h0.next)(R0:kO h0 a bo O)
 (T:∀h,Wd g h0 h B F O.length->Ok (Fc (Ag TT disp K d false) (Ag TT disp K d true) K v2 v3 v4 u v6 (.ptr B.c 0) h) Q) :
 ∀(f i:Nat) (h:Ab),O.length-i<f->i<=O.length->Wd g h0 h B F i ->
 Ok (Ec (Ag TT disp K d false) (Ag TT disp K d true) K f v2 v3 v4 u v6 (.ptr B.c 0) a (I O.length) (I i) h) Q:=by
 intro f;induction f with
 | zero=>intro i h hf;omega
 | succ f U=>
  intro i h hf hi ⟨X,L,mt,C,J,gg,gen,nx,e⟩;rw[Ec];simp only[I,Ac];by_cases m:i<O.length
  case neg=>
   have:decide ((i:Int)<(O.length:Int))=false:=by simp;omega
   simp only[this,Aa];have:i=O.length:=a_
   subst this;exact T h ⟨X,L,mt,C,J,gg,gen,nx,e⟩
  have:decide ((i:Int)<(O.length:Int))=true:=by simp;omega
  have V:kO h a bo O:=R0.frame (e.get bo S fun y=>y P);simp only[this,Aa,Px];rw[V.at m];generalize O[i]=x;rw[Ay (l:=(⟨1,x,i,zP⟩:mD).cells) rfl];have w:=Bqi;generalize zP=ev at w⊢;generalize G:(⟨1,x,i,ev⟩:mD)=o;have H:o.ev.Wf:=by subst G;exact w
  have W:o.kind=1:=by subst G;rfl
  have ol:=mD.len H
  try simp only[Aa]
  refine Ok.mk (by simp) ol fun h1 M gv n1=>?_
  have hb:=C.hb;have C1:Cx h1 B X F:=(C.ext M).less fun j hj=>.inl hj
  rw[Cp gv rfl (Ak ol)];refine(Btv A hK C1 J a_ a_ H W .Cl hd).Am ?_;rintro _ h2 ⟨er,Y,L',mt',rfl,c2,j2,t⟩;have og:=t.gen;have on:=t.nx;simp only[Pv,dr,I,Ac];rw[Ch,show((i:Nat):Int)+1=((i+1:Nat):Int) from a_];exact U (i+1) h2 a_ a_ ⟨Y,L',mt',c2.C,j2,t.g.trans gg,⟨a_,a_⟩,a_,(e.trans (Ext.to M)).trans c2.k⟩
section
theorem Bs5(k:EV->R):K3 iT (bin TT .eql 51) (.agg (Be Dt)) (.agg (List.replicate 32 (.int .u8 0))) k=k (.bool true):=by kernel_rfl
section
variable (A:Bu disp)(hK:3000000<K)(hd:33<=d){gp w:Nat}
include A hK hd
theorem Bje(hb:(b:Int)<g.B)(hB:g.B<=256)(U:∃bs,L[b]? = some bs/\¬bs = [])(V:F gp)(W:¬gp=q)(fw:F w)(nw:¬w=q)(t:HB h0)(g1:h0.get gp=some (.cells (gL g) 23))(w1:h0.get w=some (.cells (Be Dt) 51))(hi:(i:Int)=2*(g.B+3))(p:Fs g q B F L b i h0 h):
 Ok (Fl (Ag TT disp K d false) (Ag TT disp K d true) K (I b) (.ptr gp 0) (.ptr B.c 0) (.ptr w 0) (I i) h) fun v h'=>v=.bool true/\Av (fun i=>¬F i\/i=q) h0 h':=by
 obtain⟨mt,X,s,C,J,gq,k,cu,st,de,T,ge,nx,ch⟩:=p;have lb:=J.c.lb;rw[T]at lb;have hj:b<X.es.length:=a_
 have u:=aD hj;obtain⟨bs,hl,nn⟩:=U;have lv:=(J.c.Av4 b _ bs u hl).resolve_left fun y=>nn y.2
 have lv:=lv.tx (hg:=False) fun y=>by have:=y.2;omega
 generalize X.es[b]=x at u lv;have G:bs.length=32:=by
  obtain⟨e,we,eb,_⟩:=lv.rc.ex;rw[<-eb];exact we.1
 have rg:=r9 C.sm (rF C.map.ok b);rw[oL u]at rg;simp only at rg;simp only[Fl,Aa,Ef];rw[C.jc]
 try simp only[Aa]
 refine(Oj (K:=K) C.sm C.map C.hb b).Am ?_;rintro _ h2 ⟨rfl,x2⟩;have c2:=C.Xe x2;rw[oL u];simp only[Aa];refine Ok.mk rfl rfl fun h3 x3 e3 _=>?_
 have c3:=c2.trans (c2.C.Xe x3);have l6:=c3.hb _ _ e3;simp only[Aa,As];rw[kr (v:=.ptr B.m 0) (by simp only[Cv,Aa];rw[c3.C.lift.iA])]
 try simp only[Aa,As]
 rw[Hl l6,Cp e3 rfl (Ak (n:=6) rfl)]
 try simp only[Aa,As]
 have ck:=VD (K:=K) A a_ (d:=d) a_ c3.C.lift.M c3.C.lift.hb rg.1 rg.2;obtain⟨n,en,ww⟩:=J.c.check lv;obtain⟨rfl,_⟩:=ww.resolve_right fun y=>y.2
 rw[en]at ck;refine Ok.bC (S:=fun j=>¬B.fr F j) ck (fun _ _ p=>p.2.2.2.1) ?_;rintro _ au h4 s' ⟨rfl,bw,M',_,ax⟩ sm H P;simp only at bw;have ul:(Be bs).length=32:=by rw[Bi,G]
 simp only[Aa];rw[Hg (by rcases P with rfl|⟨w,rfl,_⟩<;>kernel_rfl)];refine Ok.st (Be bs) (Ad _ _) rfl (by show Gk (Be bs)=32;rw[Bg,ul]) (Bo (by rw[bR];exact ul.symm)) ?_;obtain⟨h5,e_,x5,_,_⟩:=nP h4 (.cells (List.replicate 32 (EV.int .u8 0)) 51) (.cells (Be bs) 51);rw[e_];have a:Av (fun i=>¬F i\/i=q) h0 h5:=((ch.trans (c3.k.mono fun i y=>.inl y)).trans (H.mono fun i y=>.inl fun z=>y (.inl z))).trans (Ext.to x5);have g5:=a.at t g1 fun y=>y.elim (fun y=>y V) W
 have w5:=a.at t w1 fun y=>y.elim (fun y=>y fw) nw
 have:=C.sm.b0;rw[T]at this;rw[Aj g5 rfl (v:=I g.B) rfl];simp only[I,Ac];rw[show Dl .i64 (g.B+3)=g.B+3 from Ch,Ch,aO (show(i:Int)=2*(g.B+3)from hi)];simp only[Aa,Bz,Ac];simp only[aC,Q5,Aa,Bz];simp only[I,Ac];simp only[aC,Qq,Aa,Bz];rw[Cp w5 rfl (Ak (n:=32) rfl),Ay (l:=List.replicate 32 (.int .u8 0)) rfl,Bs5];simp only[Qz,Aa];exact .ret ⟨rfl,a⟩
theorem Bab(hb:(b:Int)<g.B)(G:g.B<=256)(H:F q){v2 v6 j:EV}(M:∀(i:Nat) (h:Ab),(i:Int)=2*(g.B+3)->Fs g q B F L b i h0 h->Ok (Fl (Ag TT disp K d false) (Ag TT disp K d true) K v2 v6 (.ptr B.c 0) j (I i) h) Q):
 ∀(f i:Nat) (h:Ab) (a:EV),(2*(g.B+3)).toNat-i<f->(i:Int)<=2*(g.B+3)->Fs g q B F L b i h0 h->((i:Int)=2*(g.B+3)->a=I i) ->
 Ok (Du (Ag TT disp K d false) (Ag TT disp K d true) K f v2 v6 (.ptr B.c 0) j (.ptr q 0) a (I (2*(g.B+3))) (I i) h) Q:=by
 intro f;induction f with
 | zero=>intro i h a hf;omega
 | succ f P=>
  intro i h a hf U p t;rw[Du];simp only[I,Ac];by_cases m:(i:Int)<2*(g.B+3)
  case neg=>
   have e:(i:Int)=2*(g.B+3):=a_
   rw[aL m,t e];simp only[Aa];exact M i h e p
  rw[aO m];simp only[Aa,Q6];refine(Bpq A a_ (d:=d) a_ hb G H m p).Am ?_;rintro _ u ⟨ok,rfl,p1,S⟩;have nx:∀a:EV,(((i+1:Nat):Int)=2*(g.B+3)->a=I (i+1:Nat))->Ok (K0 (Ag TT disp K d false) (Ag TT disp K d true) K (Du (Ag TT disp K d false) (Ag TT disp K d true) K f) v2 v6 (.ptr B.c 0) j (.ptr q 0) a (I (2*(g.B+3))) (I i) u) Q:=fun a t=>by
   simp only[K0,dr,I,Ac];rw[Ch,show((i:Nat):Int)+1=((i+1:Nat):Int) from a_];exact P (i+1) u a a_ a_ p1 t
  simp only[Aa,I,Ac];simp only[aB,aA];simp only[Aa,Q2];simp only[I]at nx;cases ok with
  | false=>exact nx a fun y=>absurd (S y) c_
  | true=>
   obtain⟨mt,X,s,C,J,T,k,cu,st,_⟩:=p1;simp only[Aa,Kz];rw[Aj T rfl (v:=I s.st) rfl,st];simp only[Aa];exact nx _ fun _=>rfl
theorem Bmt(C:Cx h B X F)(J:Jc (fun j=>j=b) X L mt)(gg:X.S.g=g)(gen:1<=X.gen/\X.gen<=66000)(nx:X.nx<=4200000)(hb:(b:Int)<g.B)(P:∃bs,L[b]? = some bs/\¬bs = [])(fl:∀i,F i->i<h.next)(G:F gp)(T:h.get gp=some (.cells (gL g) 23)):
 Ok (K2 (Ag TT disp K d false) (Ag TT disp K d true) K (I b) (.ptr gp 0) (.ptr B.c 0) h) fun v h'=>v=.bool true/\Av (fun i=>¬F i) h h':=by
 have s0:=C.sm.b0;have s1:=C.sm.b1;rw[gg]at s0 s1;simp only[K2,Aa];refine Ok.Am (A7e A a_ C (d:=d) a_ (j:=-1) a_) ?_;rintro _ h2 ⟨rfl,c2⟩;simp only[Aa];refine Ok.mk rfl rfl fun a H e3 n3=>?_
 have c3:=c2.trans (c2.C.Xe H);have t2:=c2.k.next
 simp only[qA];rw[Ay (l:=(⟨0,false,0,0,0,0,0⟩:Sb).cells B.c) rfl];simp only[Aa];have u:Ext a (a.new (.cells ((⟨0,false,0,0,0,0,0⟩:Sb).cells B.c) 109)):=Av.new _ _;have M:ji (a.new (.cells ((⟨0,false,0,0,0,0,0⟩:Sb).cells B.c) 109)) a.next B.c ⟨0,false,0,0,0,0,0⟩:=Ad _ _
 have n4:(a.new (.cells ((⟨0,false,0,0,0,0,0⟩:Sb).cells B.c) 109)).next=a.next+1:=rfl
 generalize a.new (.cells ((⟨0,false,0,0,0,0,0⟩:Sb).cells B.c) 109)=h4 at u M n4⊢;have U:Cx h4 B X (fun i=>F i\/i=h2.next\/i=a.next):=((c2.C.ext H).ext u).less fun i m=>by
  rcases m with m|rfl|rfl
  ·exact .inl (.inl m)
  ·exact .inl (.inr ⟨aE _,a_⟩)
  ·exact .inr ⟨aE _,a_⟩
 have c4:=c3.trans (c3.C.Xe u);have l1:=fl gp G;have t:=c4.k.at C.hb T G;have w4:=u.at c3.hb e3;rw[Aj t rfl (v:=I g.B) rfl];simp only[I,Ac];rw[show Dl .i64 (g.B+3)=g.B+3 from Ch,Ch];refine Ok.mono (Bab (F:=fun i=>F i\/i=h2.next\/i=a.next) (q:=a.next) (h0:=h4) A hK hd hb a_ (.inr (.inr rfl)) (fun i h' m p=>Bje (F:=fun i=>F i\/i=h2.next\/i=a.next) (h0:=h4) A hK hd hb a_ P (.inl G) a_ (.inr (.inl rfl)) a_ c4.hb t w4 m p) K 0 h4 (I 0) a_ a_ ⟨mt,X,⟨0,false,0,0,0,0,0⟩,U,J.mono fun _ _ _ e _ _ _ n=>absurd ⟨e,cS _⟩ n,M,⟨cN _,by rw[gg];show(0:Int)<_;omega,rfl,cN _,cN _⟩,by simp,rfl,fun _=>rfl,gg,⟨gen.1,a_⟩,a_,Av.refl _⟩ (fun y=>by omega)) ?_;rintro v h' ⟨rfl,V⟩;refine⟨rfl,(c4.k.trans (V.mono fun i m y=>?_))⟩;rcases m with m|rfl
 ·exact m (.inl y)
 ·have:=fl _ y;omega
end
end
theorem Bif(k:EV->R):K3 iT (bin TT .eql 26) .Cl .Cl k=k (.bool true):=by kernel_rfl
theorem eq8(a b:Int)(k:EV->R):K3 iT (bin TT .eql 5) (.int .u8 a) (.int .u8 b) k=k (.bool (decide (a=b))):=by
 rw[<-rX];rfl
def ny(o x:Nat):List Nat:=(List.replicate 64 0).set o x
theorem Bpv {x:Nat}(a:o<64)(m:0<x)(e:x<256):zM (ny o x) o:=by
 refine⟨by unfold ny;rw[bM,bR],fun b hb=>?_,a,?_,fun j hj ne=>?_⟩
 ·rcases cZ hb with y|rfl
  ·rw[bO y];decide
  ·exact e
 ·unfold ny
  rw[cW,aI rfl,aI (by rw[bR];exact a)];intro y;cases y;omega
 ·unfold ny
  rw[cW,aG (fun y=>ne y.symm),List.getElem?_replicate,aI hj]
theorem Bpe(o x:Nat):Be (ny o x)=(List.replicate 64 (EV.int .u8 0)).set o (.int .u8 (x:Int)):=by
 unfold Be ny;rw[List.map_set,fP];rfl
section
variable (A:Bu disp)(hK:3000000<K)(hd:33<=d){gp:Nat}
include A hK hd
theorem Bgk(C:Cx h B X F)(J:Jc (fun _=>False) X L mt)(gg:X.S.g=g)(gen:1<=X.gen/\X.gen<=66000)(nx:X.nx<=4200000)(fl:∀i,F i->i<h.next)(fg:F gp)(g1:h.get gp=some (.cells (gL g) 23)){x:Me}(U:X.es[b]? = some x)(h1:x.state=1){z:Int}(hz:z=x.Ai\/z=x.Aw){j:Nat}(e1:h.get j=some (.cells x.cells 38)){y:Nat}(ho:o<64)(y0:0<y)(y1:y<256):
 Ok (G0 (Ag TT disp K d false) (Ag TT disp K d true) K (I b) (I o) (.int .u8 (y:Int)) (.ptr gp 0) (.ptr B.c 0) (.ptr j 0) (I z) h) fun v h'=>v=.bool true/\Av (fun i=>¬F i) h h':=by
 simp only[G0];rw[Ay (l:=List.replicate 64 (.int .u8 0)) rfl];simp only[Aa];refine Ok.mk rfl rfl fun h2 G e2 n2=>?_
 rw[show(I (o:Int))=.int .i64 (o:Int)from rfl,Vs ho];refine Ok.kP e2 (G.hb C.hb) rfl rfl (by rw[bR];omega) fun H e3 t M=>?_
 rw[show 0+o*1=o from a_,<-Bpe]at e3;have P:=Bpv ho y0 y1;have pu:U8 (Be (ny o y)):=⟨_,P.u8,rfl⟩;have pl:(Be (ny o y)).length=64:=by rw[Bi];exact P.len
 generalize ny o y=p at e3 P pu pl;have C3:Cx H B X F:=((C.ext G).iI t (fun i a _=>.inr (by have a:i=h.next:=a;subst a;exact⟨aE _,a_⟩)) M).less fun _=>.inl
 have W:Av (fun i=>¬F i) h H:=(Ext.kf G).then t fun i a _=>by have a:i=h.next:=a;omega
 have le:=C.hb _ _ e1;have aa:H.get j=some (.cells x.cells 38):=by rw[t.get _ (by have:=G.next;omega) (by show ¬j=h.next;omega),G.get _ le id];exact e1
 have t3:=W.next
 have ln:h.next<H.next:=M _ _ e3
 obtain⟨D,V,d1,d2,sp⟩:=A93 (K:=K) A a_ C3.lift (d:=d) a_
 try simp only[Aa,As]
 rw[kr (v:=.ptr B.m 0) (by simp only[Cv,Aa];rw[C3.lift.iA])]
 try simp only[Aa,As]
 rw[kr d1]
 try simp only[Aa,As]
 rw[kr d2]
 try simp only[Aa,As]
 rw[Hl (show j<H.next from a_),Aj aa rfl (v:=I x.off) rfl]
 try simp only[Aa,As]
 rw[Hl ln,Cp e3 rfl (Ak pl)]
 try simp only[Aa,As]
 obtain⟨s1,s2,s3,js⟩:=J.G8 U h1 hz P;refine Ok.bC (S:=fun i=>¬F i) (sp z x.off pl pu s1 s2 s3) (fun _ _ p=>p.2.k) ?_;rintro _ au h4 s' ⟨rfl,c4⟩ sm u aw;have C4:=c4.C.same sm;simp only[I,Ac];simp only[aB,aA];simp only[Aa];have bb:=(aY.1 U).1;have lb:=J.c.lb;rw[gg]at lb;obtain⟨bs,hL,lv⟩:=J.c.at U h1;have T:bs.length=32:=by
  obtain⟨e,we,j,_⟩:=lv.rc.ex;rw[<-j];exact we.1
 have t4:=u.next
 refine Ok.mono (Bmt (g:=g) (b:=b) A hK hd C4 js gg gen nx a_ ⟨bs,hL,fun y=>by rw[y]at T;cases T⟩ (fun i a=>by have:=fl i a;omega) fg ((W.trans u).at C.hb g1 fun y=>y fg)) ?_;rintro v h' ⟨rfl,c⟩;exact⟨rfl,(W.trans u).trans c⟩
theorem Bjm(C:Cx h B X F)(J:Jc (fun _=>False) X L mt)(gg:X.S.g=g)(gen:1<=X.gen/\X.gen<=66000)(nx:X.nx<=4200000)(fl:∀i,F i->i<h.next)(P:F gp)(T:h.get gp=some (.cells (gL g) 23))(a:Int)(m:Bool){y:Nat}(U:o<64)(V:0<y)(W:y<256):
 Ok (Fc (Ag TT disp K d false) (Ag TT disp K d true) K (I a) (.bool m) (I o) (.int .u8 (y:Int)) (.ptr gp 0) (.ptr B.c 0) h) fun v h'=>v=.bool true/\Av (fun i=>¬F i) h h':=by
 simp only[Fc,Aa,Ef];rw[C.jc]
 try simp only[Aa]
 refine(Oj (K:=K) C.sm C.map C.hb a).Am ?_;rintro _ h2 ⟨rfl,M⟩;simp only[Aa];refine Ok.mk rfl rfl fun G x3 e3 n3=>?_
 have j:=M.trans x3;have C3:=C.Xe j;have l3:=M.next
 have ad:Eu (.tuple []) false=false/\Eu (.tuple []) true=false:=⟨rfl,rfl⟩;have no:Ok (Fe (Ag TT disp K d false) (Ag TT disp K d true) K (I a) (.bool m) (I o) (.int .u8 (y:Int)) (.ptr gp 0) (.ptr B.c 0) (.ptr h2.next 0) (.bool false) (.bool true) G) (fun v h'=>v=.bool true/\Av (fun i=>¬F i) h h'):=by
  simp only[Fe,Aa,Bz];exact .ret ⟨rfl,Ext.to j⟩
 simp only[I,Ac]at no⊢;by_cases hj:0<=a/\a<X.es.length
 case neg=>
  rw[UO hj];have t:¬(13:Int)=0:=c_
  simp only[t,aQ,aC,Aa,Bz,Fe];exact .ret ⟨rfl,Ext.to j⟩
 obtain⟨b,rfl⟩:=av hj.1;have u:=aD (show b<X.es.length from a_);rw[oL u]at e3⊢;generalize X.es[b]=x at u e3⊢;simp only[aB,aA,Aa,Bz];rw[Aj e3 rfl (v:=I x.seq) rfl];simp only[I,Ac];have bl:b<L.length:=by rw[J.c.len];omega
 rcases J.c.Av4 b x _ u (aD bl)with w|lv
 ·rw[w.1]
  simp only[show(Me.nil 0).seq=0 from rfl,aC];rw[w.1]at e3;exact no
 have h1:=lv.st;have sq:=(mz lv.ok).2.2.2.1;rw[aL (show ¬x.seq=0 from a_)];simp only[Fe,Aa,Bz,Py];rw[Aj e3 rfl (v:=I x.Ai) rfl]
 try simp only[Aa]
 have H:∀i,F i->i<G.next:=fun i hi=>by have:=fl i hi;have:=j.next;omega
 have fin:∀z,(z=x.Ai\/z=x.Aw)->Ok (G0 (Ag TT disp K d false) (Ag TT disp K d true) K (I b) (I o) (.int .u8 (y:Int)) (.ptr gp 0) (.ptr B.c 0) (.ptr h2.next 0) (I z) G) (fun v h'=>v=.bool true/\Av (fun i=>¬F i) h h'):=fun z hz=>
  Ok.mono (Bgk A hK hd C3.C J gg gen nx H P (Ext.at j C.hb T) u h1 hz e3 U V W) fun v h' ⟨e,c⟩=>⟨e,(Ext.to j).trans c⟩
 cases m with
 | false=>
  simp only[Aa];exact fin _ (.inl rfl)
 | true=>
  simp only[Aa];rw[Aj e3 rfl (v:=I x.Aw) rfl];exact fin _ (.inr rfl)
end
theorem Biu(A:Bu disp)(hK:3000000<K)(hd:33<=d)(g:Gm)(at_:Int)(m:Bool)(off:Int)(x:Nat)(hx:x<256)(hb:HB h){J:EV}(R0:kO h J bo O)(lo:bo<h.next):
 Ok (Nh (Ag TT disp K d false) (Ag TT disp K d true) K (gV g) J (I at_) (.bool m) (I off) (.int .u8 (x:Int)) h) fun v h'=>v=.bool true/\∀i,i<h.next->h'.get i=h.get i:=by
 simp only[Nh,gV,Aa];obtain⟨h0,e_,M,g0,n0⟩:=nW h (.cells (gL g) 23);rw[e_];refine(Bdj A a_ hd (M.hb hb)).Am ?_;rintro _ e ⟨rfl,P,u⟩;have t1:=P.next
 have W:=P.at (M.hb hb) g0 (show h.next<h0.next from a_);simp only[Pw,Aa];rw[Cz W rfl,Ak (n:=6) rfl]
 try simp only[Aa]
 rw[show EV.agg (gL g)=gV g from rfl];refine(VN (K:=K) A a_ (d:=d) a_ g u).Am ?_;rintro v h2 ⟨T,U,H⟩;have ai:Eu (.tuple []) false=false/\Eu (.tuple []) true=false:=⟨rfl,rfl⟩;have a:∀i,i<h.next->h2.get i=h.get i:=fun i t=>by rw[T.get i a_ fun y=>y (show i<e.next from a_),P.get i a_ fun y=>y (show i<h0.next from a_),M.get i t id]
 have R2:kO h2 J bo O:=R0.frame (a bo lo);have t2:=T.next
 have done:∀C:EV,C=.bool true\/C=.tuple []->True:=fun _ _=>trivial
 by_cases hy:rtB g=true/\g.D*g.Z<=64
 case neg=>
  rw[aG hy]at H;subst H;rw[Bif];simp only[Aa,Bz,G1,Ff,Eb,Dg];exact .ret ⟨rfl,a⟩
 rw[aI hy]at H;obtain⟨B,Y,rfl,C2,lB,jY,oY,gY⟩:=H;rw[VP];simp only[Aa,Bz];rw[R2.Ip];simp only[I,Ac];by_cases G:40<(O.length:Int)
 ·simp only[G,aC,Aa,Bz,G1,Ff,Eb,Dg]
  exact .ret ⟨rfl,a⟩
 simp only[G,aA,Aa,Bz,Ac,G1];by_cases o0:off<0
 ·simp only[o0,aC,Aa,Bz,Ff,Eb,Dg]
  exact .ret ⟨rfl,a⟩
 simp only[o0,aA,Aa,Bz,Ac,Ff];by_cases o1:63<off
 ·simp only[o1,aC,Aa,Bz,Eb,Dg]
  exact .ret ⟨rfl,a⟩
 simp only[o1,aA,Aa,Bz,Ac,Eb];rw[eq8];by_cases y0:(x:Int)=0
 ·simp only[y0,aC,Aa,Bz,Dg]
  exact .ret ⟨rfl,a⟩
 simp only[y0,aA,Aa,Bz,Dg,Pr];rw[R2.Ip];have gg:(Co.start g).S.g=g:=(qj (Fp g) (Ft g) (Mi.new g) (g.D*g.Z).toNat).2.1;have nx:=oY.nx;have ao:(Co.start g).nx=1:=rfl;obtain⟨o,rfl⟩:=av (show 0<=off from a_);refine A83 (F:=fun i=>i<e.next) (h0:=h2) (g:=g) A hK hd (O:=O) a_ (bo:=bo) (by show bo<e.next;omega) a_ R2 (fun h3 p=>?_) K 0 h2 a_ a_ ⟨Y,pR g,_,C2,jY,oY.g.trans gg,⟨a_,a_⟩,a_,Av.refl _⟩;obtain⟨Z,L,mt,C3,j3,g3,V,ax,j⟩:=p;have t3:=j.next
 refine Ok.mono (Bjm (g:=g) (gp:=h.next) A hK hd C3 j3 g3 ⟨V.1,a_⟩ a_ (fun i t=>by have t:i<e.next:=t;omega) (show h.next<e.next from a_) (j.at U (T.at u W (show h.next<e.next from a_)) fun y=>y (show h.next<e.next from a_)) at_ m (o:=o) a_ a_ hx) ?_;rintro v h' ⟨rfl,c⟩;exact⟨rfl,fun i t=>by rw[c.get i a_ fun y=>y (show i<e.next from a_),j.get i a_ fun y=>y (show i<e.next from a_)];exact a i t⟩
end Go.Ev

namespace Go.Ev
end Go.Ev

namespace Go.Ev
open Go.Proofs
set_option maxRecDepth 100000
def zQ(w:World)(v:Value)(L:List Int):Prop:=(v=.slice none 0 0/\L = [])\/∃b off cap arr e fr,v=.slice (some ⟨b,off,none⟩) L.length cap/\w.heap[b]? = some (.cells arr e fr)/\∀(j:Nat) (x:Int),L[j]? = some x->arr[off+j]? = some (.int .i64 x)
structure zR(ws:List (Nat × List EV))(arr:Array Value):Prop where
 all:∀x∈ws,∃L:List Int,x.2=L.map I/\∀(j:Nat) (a:Int),L[j]? = some a->arr[x.1+j]? = some (.int .i64 a)
theorem Bmm {ws:List (Nat × List EV)}{off o:Nat}{l:List EV}(hm:(o,l)∈ws)(a:o<=off)(h2:off-o<l.length):∃o' l',mW ws off=some (o',l')/\(o',l')∈ws/\o'<=off/\off-o'<l'.length:=by
 induction ws with
 | nil=>cases hm
 | cons x r e=>
  obtain⟨o',l'⟩:=x;unfold mW;by_cases c:o'<=off/\off-o'<l'.length
  ·refine⟨o',l',?_,aW ..,c.1,c.2⟩
   rw[aR c.1,Al,show Nat.ble (Nat.succ (Nat.sub off o')) (len l')=true from aR (by rw[Wg];exact c.2),Al]
  ·have hf:Bc (Nat.ble o' off) (Nat.ble (Nat.succ (Nat.sub off o')) (len l')) false=false:=by
    cases hb:Nat.ble o' off with
    | false=>rfl
    | true=>
     rw[Al];cases j:Nat.ble (Nat.succ (Nat.sub off o')) (len l')with
     | false=>rfl
     | true=>
      have y:=bG j;rw[Wg]at y;exact absurd ⟨bG hb,y⟩ c
   rw[hf,Bk];rcases bX.1 hm with y|y
   ·cases y;exact absurd ⟨a,h2⟩ c
   ·obtain⟨m,l2,e1,e2,e3⟩:=e y
    exact⟨m,l2,e1,aT _ e2,e3⟩
theorem Bpw {ws:List (Nat × List EV)}{arr:Array Value}{r:Obj}(W:zR ws arr){h:Ab}{q:Nat}(hg:h.get q=some (.view ws r)){off:Nat}{L:List Int}(hm:(off,L.map I)∈ws)(C:∀(j:Nat) (a:Int),L[j]? = some a->arr[off+j]? = some (.int .i64 a))
 {j:Nat} (hj:j<L.length) (k:EV->R):Iy (.ptr q (off+j)) h k=k (I L[j]):=by
 obtain⟨o,l,e1,e2,e3,e4⟩:=Bmm (off:=off+j) hm a_ (by rw[bk];omega);obtain⟨e,t,m⟩:=W.all _ e2;simp only at t m;subst t;rw[bk]at e4;have G:=C j L[j] (aD hj);have u:=m (off+j-o) e[off+j-o] (aD e4);rw[show o+(off+j-o)=off+j from a_,G]at u;have H:e[off+j-o]=L[j]:=by have y:=gN u;injection y with _ y;exact y.symm
 show oB _ (mN (h.get q) (off+j) 1)=_;rw[hg];show oB _ (match mW ws (off+j)with|some (o,l)=>Ou l (Nat.sub (off+j) o) 1|none=>none)=_;rw[e1];have J:Ou (e.map I) (Nat.sub (off+j) o) 1=some [I L[j]]:=by
  rw[F9 (by rw[bk];show off+j-o+1<=_;omega)];congr 1;show((e.map I).drop (off+j-o)).take 1=_;rw[dH (by rw[bk];exact e4),List.getElem_map,H];rfl
 show oB _ (Ou (e.map I) (Nat.sub (off+j) o) 1)=_;rw[J];rfl
noncomputable def wc(o0 o1:Option D5):Ab:=⟨(Tr.put .nil 0 o0).put 1 o1,2,2⟩
theorem VR(o0 o1:Option D5)(i:Nat):(wc o0 o1).get i=if i=1 then o1 else if i=0 then o0 else none:=by
 show((Tr.put .nil 0 o0).put 1 o1).get i=_;rw[Tr.get_put,Tr.get_put];by_cases a:i=1
 ·rw[aI a.symm,aI a]
 ·rw[aG (fun y=>a y.symm),aG a]
  by_cases h0:i=0
  ·rw[aI h0.symm,aI h0]
  ·rw[aG (fun y=>h0 y.symm),aG h0];rfl
def zT(w:World)(b:Nat)(o:D5):Prop:=∃ws arr e fr,o=.view ws (.cells arr e fr)/\w.heap[b]? = some (.cells arr e fr)/\zR ws arr
structure zU(w:World)(h:Ab)(f:Loc):Prop where
 hok:Ug (fun i=>i<2) h
 rep:Uc f h w
 hb:HB h
 next:h.next=2
 view:∀i o,h.get i=some o->∃ws r,o=.view ws r
theorem VT {w:World}{o0 o1:Option D5}{b0 b1:Nat}(h0:∀o,o0=some o->zT w b0 o)(J:∀o,o1=some o->zT w b1 o)(ne:∀o o',o0=some o->o1=some o'->b0≠b1):
 zU w (wc o0 o1) ⟨fun i=>if i=1 then b1 else b0,fun _=>0⟩:=by
 have cs:∀i o,(wc o0 o1).get i=some o->(i=1/\o1=some o)\/(i=0/\o0=some o):=fun i o e=>by
  rw[VR]at e;split at e
  next y=>exact .inl ⟨y,e⟩
  ·split at e
   next y=>exact .inr ⟨y,e⟩
   ·cases e
 have u:∀i o,(wc o0 o1).get i=some o->zT w (if i=1 then b1 else b0) o:=fun i o e=>by
  rcases cs i o e with⟨rfl,y⟩|⟨rfl,y⟩
  ·exact J o y
  ·exact h0 o y
 refine⟨⟨fun i M=>M,fun i o e=>?_⟩,⟨fun i o e=>?_,fun i j o o' e e' y=>?_⟩,fun q o e=>?_,rfl,fun i o e=>?_⟩
 ·refine⟨by rcases cs i o e with⟨rfl,_⟩|⟨rfl,_⟩<;>omega,?_⟩
  obtain⟨ws,arr,t,fr,rfl,_,W⟩:=u i o e;intro x C;obtain⟨L,G,_⟩:=W.all x C;rw[G];constructor
  ·rw[I9];intro v H;obtain⟨a,_,rfl⟩:=dK.1 H;trivial
  ·rw[dS];intro v H;obtain⟨a,_,rfl⟩:=dK.1 H;rfl
 ·obtain⟨ws,arr,t,fr,rfl,g,W⟩:=u i o e
  refine⟨_,g,rfl,arr,t,fr,rfl,fun x C j v hj=>?_⟩;obtain⟨L,G,P⟩:=W.all x C;rw[G,bH]at hj;cases m:L[j]? with
  | none=>rw[m]at hj;cases hj
  | some a=>rw[m]at hj;cases hj;exact P j a m
 ·have y:(if i=1 then b1 else b0)=(if j=1 then b1 else b0):=y
  rcases cs i o e with⟨rfl,a⟩|⟨rfl,a⟩<;>rcases cs j o' e' with⟨rfl,b⟩|⟨rfl,b⟩
  ·rfl
  ·rw[aI rfl,aG a_]at y;exact absurd y.symm (ne _ _ b a)
  ·rw[aG a_,aI rfl]at y;exact absurd y (ne _ _ a b)
  ·rfl
 ·rcases cs q o e with⟨rfl,_⟩|⟨rfl,_⟩
  ·show 1<2;omega
  ·show 0<2;omega
 ·obtain⟨ws,arr,t,fr,rfl,_⟩:=u i o e
  exact⟨_,_,rfl⟩
theorem Bdl {P:Program}{g:Nat}{w:World}{h:Ab}{f:Loc}(l:zU w h f){args:List EV}{vs:List Value}(C:Bw f args=vs)(H:EV.Ud (fun i=>i<2) args){v:EV}{V:Value}(J:∀f,Ct f v=V){h':Ab}
 (G:Good P g args h v h') (same:∀i,i<2->h'.get i=h.get i):Calls P g vs.toArray w fun e w'=>e=.returned V/\RowKit.Below w.heap.size w w':=by
 intro cs;obtain⟨fr,f',w',hs,j,t,hm,hwf,M⟩:=G.run _ f w l.hok l.rep H cs;rw[C]at hs;rw[J]at t;refine⟨.returned V,w',fr,⟨rfl,hm.os,hm.tape,hm.output,hm.size,fun k S=>?_⟩,hs,j,t⟩;by_cases u:∃i o,h.get i=some o/\f.b i=k
 ·obtain⟨i,o,a,rfl⟩:=u
  have li:=(l.hok.get i o a).1;obtain⟨ws,r,rfl⟩:=l.view i o a;obtain⟨W,e1,T,_⟩:=l.rep.obj i _ a;have m:h'.get i=some (.view ws r):=by rw[same i li];exact a
  obtain⟨r2,e2,U,_⟩:=hm.rep.obj i _ m;rw[<-(hm.F0 i li).1]at e2;rw[e2,e1,T,U]
 ·exact hm.kept k S fun i o a e=>u ⟨i,o,a,e⟩
section
open Go.ChangeShapes Go.WideShapes Go.ChangeAt Go.RowKit Go.Deep
set_option maxRecDepth 100000
theorem Brj {P:Program}{w:World}{base:Nat}{t e:TypeId}{v:Value}(j:P.underlying t=some (.slice e))(h:Value.okWide P w .any base t v):v=.slice none 0 0\/∃a len cap,v=.slice (some a) len cap/\a.spot=none/\∃row cells,w.shape? a.block=some (row,cells):=by
 unfold Value.okWide at h;rw[j]at h;simp only at h;unfold Cell.okWide at h;rw[j]at h;simp only at h;unfold Cell.ok at h;rw[j]at h;split at h<;>first|(rename_i e;cases e;done)|skip
 all_goals first|exact .inl rfl|skip
 all_goals first|(exact h.elim)|skip
 next e=>
  cases e;exact .inr ⟨_,_,_,rfl,h.2.2.2.1,by obtain⟨row,cells,hs,_⟩:=h.2.2.2.2;exact⟨row,cells,hs⟩⟩
theorem Bki {P:Program}{W:World}{H:Type}{enc:TypeId × Value->H}{base b2:Nat}{sp:Nat->Bool}{hd:Bool}{t e:TypeId}{v:Value}{d:DataW H}{p:List MemPlace}(ht:P.underlying t=some (.slice e))(he:P.underlying e=some (.int .i64))(hc:P.cellsOf e=1)
 (ho:Value.okWide P W .any base t v) (h:DataW.Trod enc P W b2 sp hd t v d p):∃L:List Int,zQ W v L/\∀x∈L,-9223372036854775808<=x/\x<=9223372036854775807:=by
 rcases Brj ht ho with rfl|⟨⟨b,off,spot⟩,len,cap,rfl,C,row,cells,u⟩
 ·exact⟨[],.inl ⟨rfl,rfl⟩,fun x J=>by cases J⟩
 ·obtain⟨fuel,hf⟩:=h
  simp only at C;subst C;rcases open_slice1 ht hc hf with⟨J,_⟩|⟨a,ab,ad,m,n,V,D,Pl,J,hb,hl,hm,S,_,hi⟩
  ·cases J
  ·cases J
   unfold World.shape? at u;split at u
   next arr e' fr hw=>
    have ah:len<=m:=by rw[S];split<;>omega
    have each:∀i,∃x:Int,i<len->arr[off+i]? = some (.int .i64 x)/\-9223372036854775808<=x/\x<=9223372036854775807:=by
     intro i;by_cases T:i<len
     ·obtain⟨M,h2⟩:=hi i a_
      obtain⟨x,e0,_,wf⟩:=DataW.trod_int he h2;refine⟨x,fun _=>⟨?_,?_⟩⟩
      ·simp only[List.cons.injEq,and_true]at e0
       rw[e0]at M;unfold Addr.add at M;split at M
       next h0=>
        simp only[World.cell?,hw]at M;subst h0;simpa using M
       ·simp only[World.cell?,hw]at M
        simpa using M
      ·have wf:(decide (IntKind.i64.min<=x)&&decide (x<=IntKind.i64.max))=true:=wf
       rw[aV,aS,aS]at wf;exact wf
     ·exact⟨0,fun y=>absurd y T⟩
    have F:∀i,{ x:Int // i<len->arr[off+i]? = some (.int .i64 x)/\-9223372036854775808<=x/\x<=9223372036854775807 }:=fun i=>⟨Classical.choose (each i),Classical.choose_spec (each i)⟩
    have get:∀(j:Nat) (x:Int),((List.range len).map fun i=>(F i).1)[j]? = some x->j<len/\x=(F j).1:=fun j x hj=>by
     rw[bH]at hj;have G:j<len:=by
      cases hr:(List.range len)[j]? with
      | none=>rw[hr]at hj;cases hj
      | some k=>have:=(aY.1 hr).1;simpa using this
     rw[cX G]at hj;cases hj;exact⟨G,rfl⟩
    refine⟨(List.range len).map fun i=>(F i).1,.inr ⟨b,off,cap,arr,e',fr,by simp,hw,fun j x hj=>?_⟩,fun x J=>?_⟩
    ·obtain⟨G,rfl⟩:=get j x hj
     exact((F j).2 G).1
    ·obtain⟨i,U,rfl⟩:=dK.1 J
     exact((F i).2 (by simpa using U)).2
   ·cases u
end
noncomputable section
def many:Nat:=1099511627776
def zV:Nat->Option FT:=fun _=>none
theorem VU:∀g F,zV g=some F->pG TP g F:=fun _ _ h=>by cases h
def VV(v:EV)(r:R):Bool:=match r with|some (w,_)=>im w v|none=>false
end
theorem Bru:VV Us (Ag TT zV many 60 false 22 [] ⟨.nil,0,0⟩)=true:=by kernel_rfl
theorem VW:(Bf.all fun v=>match v with | .int _ _=>true|_=>false)=true:=by kernel_rfl
theorem Bl2 {l:List EV}(h:(l.all fun v=>match v with | .int _ _=>true|_=>false)=true)(f g:Loc):Bw f l=Bw g l:=by
 induction l with
 | nil=>rfl
 | cons a r e=>
  rw[List.all_cons,aV]at h;simp only[Bw];rw[e h.2];cases a<;>first|rfl|(simp at h)
theorem Bpj {l:List EV}(h:(l.all fun v=>match v with | .int _ _=>true|_=>false)=true)(p:Nat->Prop):EV.Ud p l/\l.all EV.one=true:=by
 induction l with
 | nil=>exact⟨trivial,rfl⟩
 | cons a r e=>
  rw[List.all_cons,aV]at h;obtain⟨i1,i2⟩:=e h.2;rw[List.all_cons,i2];cases a<;>first|exact⟨⟨trivial,i1⟩,rfl⟩|(simp at h)
theorem Bcm:pG TP 22 A52:=by
 intro call round K _ _ args h v h' e;have hs:=(yD FP VU many 60).1;have hr:=Bru;unfold VV at hr;split at hr
 next w h0 j=>
  have hw:=PZ hr;subst hw;obtain⟨fn,hf,hb,t⟩:=(hs 22 [] _ _ _ j).fn;have m:∀f,Ct f Us=Ct ⟨fun _=>0,fun _=>0⟩ Us:=fun f=>by
   show Ct f (.agg Bf)=Ct _ (.agg Bf);simp only[Ct];rw[Bl2 VW f ⟨fun _=>0,fun _=>0⟩]
  obtain⟨u,C⟩:=Bb8 (P:=TP) (g:=22) (v:=Us) m (fun p=>Bpj VW p) hf hb t (fun w=>Bcc hs.call j m w);cases args with
  | nil=>exact Sound.of u C 22 [] h v h' e
  | cons a r=>cases e
 ·cases hr
theorem Bie {P:Program}{disp:Nat->Option FT}(h:∀g F,disp g=some F->pG P g F){n:Nat}{G:FT}(a:pG P n G):∀g F,Bc (Nat.beq g n) (some G) (disp g)=some F->pG P g F:=by
 intro g F e;rw[Br]at e;split at e
 next hb=>cases e;rw[beq_spec hb];exact a
 ·exact h g F e
noncomputable def zW:Nat->Option FT:=fun f=>Bc (Nat.beq f 22) (some A52) (zV f)
theorem Bi1:∀g F,zW g=some F->pG TP g F:=Bie VU Bcm
theorem VX {a b:Bool}(h:Bc a false b=true):a=false/\b=true:=by cases a<;>simp_all [Br]
theorem VY:Bu zW:=by
 refine⟨fun g h=>?_,by kernel_rfl⟩;obtain⟨_,h⟩:=VX h;obtain⟨a,_⟩:=VX h;unfold zW;rw[a];rfl
theorem Btg {w:World}{v:Value}{L:List Int}(R:zQ w v L):∃(h:Ab) (f:Loc) (m:EV) (t:Nat),zU w h f/\Ct f m=v/\m.ok (fun i=>i<2)/\t<2/\kO h m t L:=by
 rcases R with⟨rfl,rfl⟩|⟨b,o,c,a,e,fr,rfl,g,u⟩
 ·exact⟨_,_,.Aq,0,VT (w:=w) (o0:=none) (o1:=none) (b0:=0) (b1:=1) (fun _ y=>by cases y) (fun _ y=>by cases y) (fun _ _ y=>by cases y),rfl,trivial,a_,⟨.inl ⟨rfl,rfl⟩⟩⟩
 ·have W1:zR [(o,L.map I)] a:=⟨fun x C=>by rw[aP.1 C];exact⟨L,rfl,u⟩⟩
  refine⟨_,_,.slice 0 o L.length c false,0,VT (w:=w) (o0:=some (.view [(o,L.map I)] (.cells a e fr))) (o1:=none) (b0:=b) (b1:=0) (fun _ y=>by cases y;exact⟨_,_,_,_,rfl,g,W1⟩) (fun _ y=>by cases y) (fun _ _ _ y=>by cases y),rfl,(by show 0<2;omega),a_,⟨.inr ⟨o,c,false,rfl,fun j hj k=>?_⟩⟩⟩;exact Bpw W1 (by rw[VR];rfl) (aP.2 rfl) u hj k
theorem A87(D Z S B P O:Int)(v1:Value)(j:Int)(m:Bool)(t a:Int)(w:World){L:List Int}(R:zQ w v1 L)(_:∀x∈L,-9223372036854775808<=x/\x<=9223372036854775807)(u:(Lit.int .u8 a).wf=true):
 Calls Tryz.prog 3 #[.agg #[.int .i64 D,.int .i64 Z,.int .i64 S,.int .i64 B,.int .i64 P,.int .i64 O],v1,.int .i64 j,.bool m,.int .i64 t,.int .u8 a] w fun e w'=>e=.returned (.bool true)/\RowKit.Below w.heap.size w w':=by
 obtain⟨h,f,G,T,C,e1,o1,l1,H⟩:=Btg R;have J:0<=a/\a<=255:=by
  have u:(decide (IntKind.u8.min<=a)&&decide (a<=IntKind.u8.max))=true:=u;rw[aV,aS,aS]at u;exact u
 obtain⟨x,rfl⟩:=av J.1;obtain⟨v,h',e,rfl,same⟩:=Biu (K:=many) VY (by unfold many;decide) (d:=40) a_ ⟨D,Z,S,B,P,O⟩ j m t x a_ C.hb H (by rw[C.next];exact l1);rw[<-Abg VY c_]at e;refine Bdl C (args:=[gV ⟨D,Z,S,B,P,O⟩,G,I j,.bool m,I t,.int .u8 (x:Int)]) (vs:=[.agg #[.int .i64 D,.int .i64 Z,.int .i64 S,.int .i64 B,.int .i64 P,.int .i64 O],v1,.int .i64 j,.bool m,.int .i64 t,.int .u8 (x:Int)]) ?_ ?_ (fun _=>rfl) ((yD FP Bi1 many 41).1 3 _ _ _ _ e) (fun i M=>same i (by rw[C.next];exact M))
 ·rw[<-e1];rfl
 ·exact⟨by simp[EV.Ud,EV.ok,gV,gL,I,EV.one],o1,trivial,trivial,trivial,trivial,trivial⟩
end Go.Ev
