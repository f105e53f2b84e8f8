import Derived.Test.YtadnemjjlacolaaGreatNa
import Derived.WalkKit
import Derived.ProofKit
import Derived.OpenShut
import Derived.Carry
import Derived.Deep.Slices
import Derived.Deep.Fields
set_option linter.all false
namespace Go.Ev
open Go.Proofs
set_option maxRecDepth 100000
variable {g:Gm}{h h' h0:Ab}{K b d i k n q bo ml qx off:Nat}{f:Fr}{B:Cb}{y zn:Int}{E:List Me}{Q:EV->Ab->Prop}{v sx vo:EV}{X Y:Co}{L:List (List Nat)}{mt:Int->Int}{Br cur:Nat->Int}{F:Nat->Prop}{disp:Nat->Option FT}
theorem UO:TT.size 47=some 6/\TT.agg 47=some true:=⟨by kernel_rfl,by kernel_rfl⟩
def qI(l:List Nat):Me:=⟨P7 (l.take 1),P7 ((l.drop 1).take 2),P7 ((l.drop (1+2)).take 2),P7 ((l.drop (1+2+2)).take 1),P7 ((l.drop (1+2+2+1)).take 6),P7 ((l.drop (1+2+2+1+6)).take 4)⟩
theorem Bld(s:Sm g){x:Me}(h:meR g x=true)(r:List Nat):qI (jE x++r)=x:=by
 obtain⟨⟨a,b1⟩,⟨e,b2⟩,⟨j,b3⟩,⟨m,b4⟩,⟨p,t⟩,u,C⟩:=wI s h;unfold qI jE;simp only[<-cX,bY,qJ (De _ _),pD (De _ _)];rw[H5 (w:=1) a b1 (by decide),H5 (w:=2) e b2 (by decide),H5 (w:=2) j b3 (by decide),H5 (w:=1) m b4 (by decide),H5 (w:=6) p t (by decide),H5 (w:=4) u C (by decide)]
theorem A6u(hK:10000<K){R:Nat}{l:List Nat}(d:Rd h R q off l)(hb:HB h)(hn:16<=l.length)(hl:∀b∈l,b<256):
 Ok (uw K (.ptr R 0) h) fun v h'=>v=.agg (qI l).cells/\Rd h' R q (off+16) (l.drop 16)/\Av (fun i=>i=R) h h'/\HB h':=by
 have lR:R<h.next:=by obtain⟨s,g,_⟩:=d.Ou;exact hb _ _ g
 simp only[uw,Aa];obtain⟨h1,e_,x1,g1,n1⟩:=nW h (.cells [EV.int .i64 0,.int .i64 0,.int .i64 0,.int .i64 0,.int .i64 0,.int .i64 0] 47);rw[e_];have M:=x1.hb hb;refine(Ll (K:=K) (d.ext hb x1) M (by omega) (w:=1) (by omega) (by omega) (by omega) hl).Am ?_;rintro _ h2 ⟨rfl,d2,c2,ae⟩;generalize e1:P7 (l.take 1)=a;have cG:=c2.at M g1 (by show ¬_=R;omega);have t2:=c2.next
 rw[Ax (l:=[Nk .i64 a,I 0,I 0,I 0,I 0,I 0]) rfl];refine Ok.mk rfl rfl fun h3 x3 g3 _=>?_
 have af:=x3.hb ae;have u:∀k,∀b∈l.drop k,b<256:=fun k b hb=>hl b (aH hb)
 refine(Ll (K:=K) (d2.ext ae x3) af (by omega) (w:=2) (by omega) (by omega) (by rw[bB];omega) (u 1)).Am ?_;rintro _ h4 ⟨rfl,d4,c4,ag⟩;generalize e2:P7 ((l.drop 1).take 2)=j;rw[cX]at d4;refine(Ll (K:=K) d4 ag (by omega) (w:=2) (by omega) (by omega) (by rw[bB];omega) (u _)).Am ?_;rintro _ h5 ⟨rfl,d5,c5,ah⟩;generalize e3:P7 ((l.drop (1+2)).take 2)=m;rw[cX]at d5;refine(Ll (K:=K) d5 ah (by omega) (w:=1) (by omega) (by omega) (by rw[bB];omega) (u _)).Am ?_;rintro _ h6 ⟨rfl,d6,c6,ai⟩;rw[cX]at d6;generalize e4:P7 ((l.drop (1+2+2)).take 1)=p;have qR:=d.ne;have aj:=c6.at ah (c5.at ag (c4.at af g3 (by show ¬_=R;omega)) (by show ¬_=R;omega)) (by show ¬_=R;omega);have a9:Av (fun i=>i=R) h1 h6:=(((c2.trans (Ext.to x3)).trans c4).trans c5).trans c6;have w6:=ai _ _ aj;have put:∀{T:Ab} {G:Nat} {lx:List Nat} (o:D3),HB T->h2.next<T.next->Av (fun i=>i=R) h1 T->Rd T R q G lx->HB (T.put h2.next o)/\Av (fun i=>i=R) h1 (T.put h2.next o)/\Rd (T.put h2.next o) R q G lx:=fun o b w c d=>by
  have t:=c.next
  refine⟨b.put w _,c.Ar (.inr (by omega)) w _,d.chg b (S:=fun i=>i=h2.next) (Av.Ar (S:=fun i=>i=h2.next) (Av.refl _) (.inl rfl) w _) (by show ¬_=_;omega) (by show ¬_=_;omega)⟩
 refine Ok.st [Nk .i64 a,Nk .i64 j,I 0,I 0,I 0,I 0] aj rfl rfl rfl ?_;obtain⟨U,al,d7⟩:=put (.cells [Nk .i64 a,Nk .i64 j,I 0,I 0,I 0,I 0] 47) ai w6 a9 d6;have g7:(h6.put h2.next (.cells [Nk .i64 a,Nk .i64 j,I 0,I 0,I 0,I 0] 47)).get h2.next=_:=Ae _ _ _
 generalize h6.put h2.next (.cells [Nk .i64 a,Nk .i64 j,I 0,I 0,I 0,I 0] 47)=h7 at U al d7 g7⊢
 refine Ok.st [Nk .i64 a,Nk .i64 j,Nk .i64 m,I 0,I 0,I 0] g7 rfl rfl rfl ?_;obtain⟨V,ao,d8⟩:=put (.cells [Nk .i64 a,Nk .i64 j,Nk .i64 m,I 0,I 0,I 0] 47) U (U _ _ g7) al d7;have g8:(h7.put h2.next (.cells [Nk .i64 a,Nk .i64 j,Nk .i64 m,I 0,I 0,I 0] 47)).get h2.next=_:=Ae _ _ _
 generalize h7.put h2.next (.cells [Nk .i64 a,Nk .i64 j,Nk .i64 m,I 0,I 0,I 0] 47)=h8 at V ao d8 g8⊢
 refine Ok.st [Nk .i64 a,Nk .i64 j,Nk .i64 m,Nk .i64 p,I 0,I 0] g8 rfl rfl rfl ?_;obtain⟨aa,aq,d9⟩:=put (.cells [Nk .i64 a,Nk .i64 j,Nk .i64 m,Nk .i64 p,I 0,I 0] 47) V (V _ _ g8) ao d8;have g9:(h8.put h2.next (.cells [Nk .i64 a,Nk .i64 j,Nk .i64 m,Nk .i64 p,I 0,I 0] 47)).get h2.next=_:=Ae _ _ _
 generalize h8.put h2.next (.cells [Nk .i64 a,Nk .i64 j,Nk .i64 m,Nk .i64 p,I 0,I 0] 47)=h9 at aa aq d9 g9⊢
 refine(Ll (K:=K) d9 aa (by omega) (w:=6) (by omega) (by omega) (by rw[bB];omega) (u _)).Am ?_;rintro _ hA ⟨rfl,dA,cA,au⟩;rw[cX]at dA;generalize e5:P7 ((l.drop (1+2+2+1)).take 6)=J;refine(Ll (K:=K) dA au (by omega) (w:=4) (by omega) (by omega) (by rw[bB];omega) (u _)).Am ?_;rintro _ hB ⟨rfl,dB,cB,aw⟩;rw[cX]at dB;generalize e6:P7 ((l.drop (1+2+2+1+6)).take 4)=a6;have gB:=cB.at au (cA.at aa g9 (by show ¬_=R;omega)) (by show ¬_=R;omega);have bj:=(aq.trans cA).trans cB;refine Ok.st [Nk .i64 a,Nk .i64 j,Nk .i64 m,Nk .i64 p,Nk .i64 J,I 0] gB rfl rfl rfl ?_;obtain⟨ab,ax,dC⟩:=put (.cells [Nk .i64 a,Nk .i64 j,Nk .i64 m,Nk .i64 p,Nk .i64 J,I 0] 47) aw (aw _ _ gB) bj dB;have gC:(hB.put h2.next (.cells [Nk .i64 a,Nk .i64 j,Nk .i64 m,Nk .i64 p,Nk .i64 J,I 0] 47)).get h2.next=_:=Ae _ _ _
 generalize hB.put h2.next (.cells [Nk .i64 a,Nk .i64 j,Nk .i64 m,Nk .i64 p,Nk .i64 J,I 0] 47)=hC at ab ax dC gC⊢
 refine Ok.st [Nk .i64 a,Nk .i64 j,Nk .i64 m,Nk .i64 p,Nk .i64 J,Nk .i64 a6] gC rfl rfl rfl ?_;obtain⟨C,ad,dD⟩:=put (.cells [Nk .i64 a,Nk .i64 j,Nk .i64 m,Nk .i64 p,Nk .i64 J,Nk .i64 a6] 47) ab (ab _ _ gC) ax dC;have gD:(hC.put h2.next (.cells [Nk .i64 a,Nk .i64 j,Nk .i64 m,Nk .i64 p,Nk .i64 J,Nk .i64 a6] 47)).get h2.next=_:=Ae _ _ _
 generalize hC.put h2.next (.cells [Nk .i64 a,Nk .i64 j,Nk .i64 m,Nk .i64 p,Nk .i64 J,Nk .i64 a6] 47)=hD at C ad dD gD⊢
 rw[Cn gD rfl (Aj (n:=6) rfl)];have gv:=ad.at M g1 (by show ¬_=R;omega);have lv:=C _ _ gv;refine Ok.mS gv rfl rfl ?_;rw[Qz (Ae _ _ _) UO.1 UO.2 rfl];refine .ret ⟨by unfold qI;rw[e1,e2,e3,e4,e5,e6];rfl,?_,?_,C.put lv _⟩
 ·have e:off+1+2+2+1+6+4=off+16:=by omega
  rw[<-e];exact dD.chg C (S:=fun i=>i=h.next) (Av.Ar (S:=fun i=>i=h.next) (Av.refl _) (.inl rfl) lv _) (by show ¬_=_;omega) (by show ¬_=_;omega)
 ·exact((Ext.to x1:Av (fun i=>i=R) h h1).trans ad).Ar (.inr (aE _)) lv _
theorem Rd.UP{R:Nat}{l:List Nat}(d:Rd h R q off l):Rd h.lift R q off l:=by
 obtain⟨s,g,e,f⟩:=d.Ou;exact⟨⟨s,by rw[Bx];exact g,e,fun y=>⟨(f y).1,(f y).2.lift⟩⟩,d.ne⟩
theorem Rd.UQ{R:Nat}{l:List Nat}(d:Rd h R q off l)(sm:iO h h'):Rd h' R q off l:=by
 obtain⟨s,g,e,f⟩:=d.Ou;exact⟨⟨s,by rw[sm.get];exact g,e,fun y=>⟨(f y).1,(f y).2.frame (sm.get _)⟩⟩,d.ne⟩
def pm(es:List Me)(n:Nat):List Me:=es.take n++List.replicate (es.length-n) (Me.nil 0)
theorem Brh(es:List Me)(n:Nat):(pm es n).length=es.length:=by unfold pm;rw[aF,bZ,bV];omega
theorem zo {es:List Me}(h:es.length<=n):pm es n=es:=by
 unfold pm;rw[bS h,show es.length-n=0 by omega];simp
theorem Bsp {es:List Me}(h:n<es.length):(pm es n).set n es[n]=pm es (n+1):=by
 unfold pm;rw[cD h,show es.length-n=(es.length-(n+1))+1 by omega,eC];have e:(es.take n).length=n:=by rw[bZ];omega
 rw[eH _ _ (by omega),e,fT,List.set_cons_zero,bY];rfl
theorem Bsm {f:Int}(a:1<=f):((2*(f.toNat-1)+k:Nat):Int)=2*(f-1)+k:=by omega
theorem UR {B f:Int}{l:Nat}(e:l=B.toNat)(a:1<=f)(h:B<=2*(f-1)+k):l<=2*(f.toNat-1)+k:=by omega
theorem Brx {B f:Int}{l:Nat}(e:l=B.toNat)(a:1<=f)(h:¬B<=2*(f-1)+k):2*(f.toNat-1)+k<l:=by omega
theorem Btz{l:List Nat}(h:16*(2-k)<=l.length)(a:k<2):16*(2-(k+1))<=(l.drop 16).length:=by rw[bB];omega
theorem Bb1(hK:10000<K)(sm:Sm g){R v2 v3 ll N:Nat}{x y z:EV}(hE:∀x∈E,meR g x=true)(lE:E.length=g.B.toNat)(w:f.Wf)(fo:1<=f.off/\f.off<=4294967296)(nR:N<=R)(nl:b≠R/\ml≠R/\ll≠R/\v2≠R/\v3<R/\v2≠ml/\v2≠ll/\v3≠ml/\v3≠ll/\q≠ml/\q≠ll):
 ∀(n k off:Nat) (h:Ab) (l:List Nat),2-k<n->k<=2->HB h->N<=h.next->Ob h b ml ll g (pm E (2*(f.off.toNat-1)+k))->(∀i,k<=i->i<2->∃r,l.drop (16*(i-k))=jE (Xj E (2*(f.off-1)+i)).1++r)->h.get v2=some (.cells [x,y,z,.ptr b 0] 160)->h.get v3=some (.cells f.cells 167)->Rd h R q off l->16*(2-k)<=l.length->(∀b∈l,b<256) ->
 Ok (X2 K n (.ptr v2 0) (.ptr v3 0) (.ptr R 0) (I k) h) fun v h'=>v=I 0/\Ob h' b ml ll g (pm E (2*f.off.toNat))/\Av (fun i=>i=R\/i=ml\/i=ll) h h'/\HB h':=by
 intro n;induction n with
 | zero=>intro k off h l hn;omega
 | succ n ih=>
  intro k off h l hn hk hb hN m u g2 g3 d hl hu;have fe:((2*(f.off.toNat-1)+k:Nat):Int)=2*(f.off-1)+k:=Bsm fo.1;have T:g.B<=2*(f.off-1)+k->E.length<=2*(f.off.toNat-1)+k:=UR lE fo.1;have aj:g.B<=2*(f.off-1)+k->E.length<=2*f.off.toNat:=fun y=>by have:=UR lE fo.1 y;have:=fo.1;clear u m fe T;omega
  have al:¬g.B<=2*(f.off-1)+k->2*(f.off.toNat-1)+k<E.length:=Brx lE fo.1;rw[X2];simp only[I,Ac];by_cases C:k<2
  case neg=>
   have:decide ((k:Int)<2)=false:=by simp;omega
   simp only[this,Aa,uz];refine .ret ⟨rfl,?_,Av.refl _,hb⟩;rw[show 2*f.off.toNat=2*(f.off.toNat-1)+k by omega];exact m
  have n7:2-(k+1)<n:=by omega
  have:decide ((k:Int)<2)=true:=by simp;omega
  simp only[this,Aa,OJ,As];refine Ok.bC (S:=fun i=>i=R) (A6u (K:=K) hK d.UP (C8 hb) (by omega) hu) (fun _ _ p=>p.2.2.1) ?_;rintro _ U h2 s' ⟨rfl,d1,c1,ao⟩ V M aa;have eX:qI l=(Xj E (2*(f.off-1)+k)).1:=by
   obtain⟨r,hr⟩:=u k (aE _) C;rw[fT,Nat.mul_zero,dF]at hr;rw[hr];exact Bld sm (q6 hE _) r
  have hR:=q6 hE (2*(f.off-1)+(k:Int));rw[<-eX]at hR;have lR:R<h.next:=by obtain⟨s,g,_⟩:=d.Ou;exact hb _ _ g
  have mw:R<=U.mw:=c1.mw R (Nat.le_of_lt lR) (Nat.le_of_lt lR) fun i hi=>by subst hi;exact aE _
  have aq:=nl.2.2.2.2.1;have a:=V.hb ao;have d2:Rd h2 R q (off+16) (l.drop 16):=d1.UQ V;have l3:=hb _ _ g3;have G:=M.at hb g2 nl.2.2.2.1;have J:=M.at hb g3 (Nat.ne_of_lt aq);have m2:=m.frame (M.get _ (hb _ _ m.map) nl.1) (M.get _ (hb _ _ m.row) nl.2.1) (M.get _ (hb _ _ m.live) nl.2.2.1);rw[Cp l3 (by
   rcases aa with rfl|⟨w,rfl,rfl⟩
   ·kernel_rfl
   ·show Bb (Nat.ble (Nat.succ v3) U.mw) true false=true
    rw[aQ (by omega)];rfl),Ai J rfl (v:=I f.off) rfl]
  simp only[I,Ac];have w1:Dr .i64 (f.off-1)=f.off-1:=Cl;have w2:Dr .i64 (2*(f.off-1))=2*(f.off-1):=Cl;have w3:Dr .i64 (2*(f.off-1)+(k:Int))=2*(f.off-1)+(k:Int):=Cl;rw[w1,w2,w3]
  try simp only[Aa,As]
  have hq:Nat.beq h2.next v3=false:=by
   cases hx:Nat.beq h2.next v3 with
   | false=>rfl
   | true=>have:=aL hx;have:=a _ _ J;omega
  have au:pW 259 h2.next ⟨s'.bg,(Nat.shiftLeft 1 8,h2.next)::s'.nw,(Nat.shiftLeft 1 3,v3)::s'.Cw,s'.lou,s'.st⟩=true:=by
   have e:pW 259 h2.next ⟨s'.bg,(Nat.shiftLeft 1 8,h2.next)::s'.nw,(Nat.shiftLeft 1 3,v3)::s'.Cw,s'.lou,s'.st⟩=Bb (Bb (Bb (Nat.beq h2.next v3) false true) true false) true false:=by
    rcases aa with rfl|⟨w,rfl,rfl⟩<;>kernel_rfl
   rw[e,hq];rfl
  rw[G1 au];refine Ok.mk rfl rfl fun h3 x3 g7 _=>?_
  have ab:=x3.hb a;rw[Ai (x3.at a G) rfl (v:=.ptr b 0) rfl];have m3:=m2.ext fun i o p=>x3.at a p
  refine(Jz (K:=K) m3 ab).Am ?_;rintro _ h4 ⟨rfl,x4,t⟩;have j:Ext h2 h4:=x3.trans x4;have c4:Av (fun i=>i=R\/i=ml\/i=ll) h h4:=(Av.mono M fun i y=>.inl y).trans (Ext.to j);have m4:=m2.ext fun i o p=>j.at a p
  simp only[gV,gL,Aa,I,Ac];by_cases hB:g.B<=2*(f.off-1)+k
  ·rw[aM (show 2*(f.off-1)+(k:Int)≥g.B from hB)]
   simp only[Aa,uz];refine .ret ⟨rfl,?_,c4,t⟩;rw[zo (T hB)]at m4;rw[zo (aj hB)];exact m4
  rw[aJ (show ¬2*(f.off-1)+(k:Int)≥g.B from hB)];simp only[Aa,OI];rw[Ai (j.at a G) rfl (v:=.ptr b 0) rfl,Cn (x4.at ab g7) rfl (Aj (n:=6) rfl)];have lk:2*(f.off.toNat-1)+k<E.length:=al hB;have eG:(Xj E (2*(f.off-1)+(k:Int))).1=E[2*(f.off.toNat-1)+k]:=by
   rw[<-fe,zf (aD lk)]
  refine(tB (K:=K) sm m4 t (fun _=>rG sm hR) _).Am ?_;have eS:kA g (pm E (2*(f.off.toNat-1)+k)) (2*(f.off-1)+(k:Int)) (qI l)=(pm E (2*(f.off.toNat-1)+(k+1)),0):=by
   unfold kA;rw[aI (by rw[Brh];omega),aI hR,<-fe,bF,eX,eG,Bsp lk];rfl
  rw[eS];rintro _ h5 ⟨rfl,m5,c5,ax⟩;have ae:Av (fun i=>i=R\/i=ml\/i=ll) h h5:=c4.trans (c5.mono fun i y=>.inr y);simp only[I,Ac];simp only[aB,aA];simp only[Aa,OH,Ac];rw[Cl,show((k:Nat):Int)+1=((k+1:Nat):Int) by omega];obtain⟨a1,a2,a3,a4,a5,a6,a7,a8,a9,ay,az⟩:=nl;have a0:=c5.at t (j.at a G) (fun y=>y.elim a6 a7);have bb:=c5.at t (j.at a J) (fun y=>y.elim a8 a9);have d5:Rd h5 R q (off+16) (l.drop 16):=(d2.ext a j).chg t c5 (fun y=>y.elim ay az) (fun y=>y.elim (fun z=>a2 z.symm) fun z=>a3 z.symm);have t6:16*(2-(k+1))<=(l.drop 16).length:=Btz hl C;have u6:∀b∈l.drop 16,b<256:=fun b hb=>hu b (aH hb)
  have n6:N<=h5.next:=by have:=ae.next;omega
  refine Ok.mono (ih (k+1) (off+16) h5 (l.drop 16) n7 C ax n6 m5 (fun i hi h2=>?_) a0 bb d5 t6 u6) ?_
  ·obtain⟨r,hr⟩:=u i (by omega) h2
   rw[cX,show 16+16*(i-(k+1))=16*(i-k) by omega];exact⟨r,hr⟩
  rintro v h6 ⟨rfl,m6,c6,bf⟩;exact⟨rfl,m6,ae.trans c6,bf⟩
theorem A7w(hK:10000<K)(sm:Sm g){ll:Nat}(hE:∀x∈E,meR g x=true)(lE:E.length=g.B.toNat){x y z:EV}(m:Ob h b ml ll g (pm E (2*(f.off.toNat-1))))(hb:HB h)(w:f.Wf)(fo:1<=f.off/\f.off<=255)(T:f.body=iG (ju E f.off 2))(pl:x.plain=true/\y.plain=true/\z.plain=true):
 Ok (sr K (.agg [x,y,z,.ptr b 0]) (.agg f.cells) h) fun v h'=>v=I 0/\Ob h' b ml ll g (pm E (2*f.off.toNat))/\Av (fun i=>i=ml\/i=ll) h h'/\HB h':=by
 have fl:=Fr.Bc w;simp only[sr,Aa];rw[show(h.new (.cells [x,y,z,.ptr b 0] 160)).next=h.next+1 from rfl];have C:Ext h ((h.new (.cells [x,y,z,.ptr b 0] 160)).new (.cells f.cells 167)):=(Av.new _ _).Da _;have S:((h.new (.cells [x,y,z,.ptr b 0] 160)).new (.cells f.cells 167)).get h.next=some (.cells [x,y,z,.ptr b 0] 160):=by rw[Ay _ (aO _)];exact Ad _ _
 have G:((h.new (.cells [x,y,z,.ptr b 0] 160)).new (.cells f.cells 167)).get (h.next+1)=some (.cells f.cells 167):=Ad _ _;have n1:((h.new (.cells [x,y,z,.ptr b 0] 160)).new (.cells f.cells 167)).next=h.next+2:=rfl
 generalize (h.new (.cells [x,y,z,.ptr b 0] 160)).new (.cells f.cells 167)=U at C S G n1⊢;have a:=C.hb hb;rw[show ∀k:EV->R,Nq 44 1 (.ptr (h.next+1) 5) (some (.int .i64 1)) none none k=k (.slice (h.next+1) 6 43 43 false)from fun k=>rfl];have bl:(f.body.drop 1).length=43:=by rw[bB,w.len]
 have bs:Bs U (.slice (h.next+1) 6 43 43 false) (h.next+1) 6 (f.body.drop 1):=by
  refine⟨43,false,_,f.cells,by rw[bl],by rw[bl];omega,G,rfl,by rw[bl,fl];omega,?_⟩;show((Bj f.body).drop 1).take (f.body.drop 1).length=_;rw[bl];have e:(Bj f.body).drop 1=Bj (f.body.drop 1):=by unfold Bj;rw[List.map_drop]
  rw[e,<-bl,<-Bg (f.body.drop 1),bW]
 refine(vP (K:=K) bs a).Am ?_;rintro _ h2 ⟨R,q,rfl,d,J,t,lq⟩;have V:=hb _ _ m.map;have aa:=hb _ _ m.row;have ab:=hb _ _ m.live;have lR:R<h2.next:=by obtain⟨s,g,_⟩:=d.Ou;exact t _ _ g
 have qR:=d.ne;have u:Ext h h2:=C.trans J
 try simp only[Aa]
 have bx:∀i,0<=i->i<2->∃r,(f.body.drop 1).drop (16*(i-0))=jE (Xj E (2*(f.off-1)+i)).1++r:=fun i _ hi=>by
  rw[T];unfold iG;have e:ju E f.off 2=Pa 1 f.off.toNat++jE (Xj E (2*(f.off-1)+(0:Nat))).1++jE (Xj E (2*(f.off-1)+(1:Nat))).1:=rfl;rw[e];simp only[bY,pD (De _ _),gh];rcases(show i=0\/i=1 by omega)with rfl|rfl
  ·exact⟨_,rfl⟩
  ·rw[bk,pD (BF _)];exact⟨_,rfl⟩
 refine(Bb1 hK sm (N:=h.next) hE lE w ⟨fo.1,by omega⟩ (by omega) ⟨by omega,by omega,by omega,by omega,by omega,by omega,by omega,by omega,by omega,by omega,by omega⟩ K 0 0 h2 _ (by omega) (by omega) t (by omega) (m.ext fun i o p=>u.at hb p) bx (J.at a S) (J.at a G) d (by omega) fun b hb=>w.u8 b (aH hb)).mono ?_;rintro v h3 ⟨rfl,m3,c3,M⟩;refine⟨rfl,m3,(Ext.to u:Av (fun i=>i=ml\/i=ll) h h2).then c3 fun j hj af=>?_,M⟩;rcases hj with rfl|hj
 ·omega
 ·exact hj
theorem Ok.Bug{s:DX}{call:Ab->R}{k:EV->Ab->DX->R}{P:EV->Ab->Prop}{S:Nat->Prop}(w0:Nat)(j:w0<=h.next)(hS:∀i,S i->w0<=i)(hb:Abu b s=true)(m:loose b s.nw = [])(hr:∀w,w0<=w->Se b w s.Cw=true)(G:Ok (call h.lift) P)(he:∀v a,P v a->Av S h.lift a)
 (u:∀v a h2 s',P v a->iO a h2->Av S h h2->(s'=s.big i\/∃w,s'=s.iI i w/\w=a.mw)->Ok (k v h2 s') Q):Ok (Ev.Ld i b s h call k) Q:=by
 obtain⟨v,a,e,p⟩:=G;have x:=he v a p;have J:Hs b s h=h.lift:=by unfold Hs;rw[m];rfl
 have hE:Ev.Ld i b s h call k=Mp i b s h a fun s h=>k v h s:=by
  show Bb (Abu b s) (Ev.Am (call (Hs b s h)) fun v h'=>Mp i b s h h' fun s h=>k v h s) none=_;rw[hb,Ak,J,e];rfl
 rw[hE];unfold Mp;rw[m];have sm:∀w,iO a ⟨a.t,a.next,w⟩:=fun w=>⟨fun i=>by rw[jf,jf],rfl⟩
 have C:∀w i,i<h.next->¬S i->(⟨a.t,a.next,w⟩:Ab).get i=h.get i:=fun w i M T=>by
  rw[(sm w).get,x.get i M T,Bx]
 cases hle:Nat.ble h.next a.mw with
 | true=>
  rw[Ak];exact u v a _ _ p (sm _) ⟨C _,x.next,fun w w1 _ _=>w1,fun y=>(sm _).hb (x.hb (C8 y))⟩ (.inl rfl)
 | false=>
  rw[Bm,hr _ (x.mw w0 j j hS),Ak];refine u v a _ _ p (sm _) ⟨C _,x.next,fun w w1 w2 w3=>?_,fun y=>(sm _).hb (x.hb (C8 y))⟩ (.inr ⟨_,rfl,rfl⟩);have:=x.mw w w2 w2 w3;show w<=Bb (Nat.ble h.mw a.mw) h.mw a.mw;rw[Bq];split<;>assumption
theorem qK:TT.size 160=some 4/\TT.agg 160=some true:=⟨by kernel_rfl,by kernel_rfl⟩
theorem Biv(s:Sm g){z:Int}(z0:0<=z)(z1:z<=281474976710655){l:List Nat}(e:l=iG (jN g z)):
 Nk .i64 (P7 (l.take 6))=I z/\Nk .i64 (P7 ((l.drop 6).take 1))=I g.D/\Nk .i64 (P7 (((l.drop 6).drop 1).take 1))=I g.Z/\Nk .i64 (P7 ((((l.drop 6).drop 1).drop 1).take 1))=I g.S/\Nk .i64 (P7 (((((l.drop 6).drop 1).drop 1).drop 1).take 2))=I g.B/\Nk .i64 (P7 ((((((l.drop 6).drop 1).drop 1).drop 1).drop 2).take 1))=I g.P/\Nk .i64 (P7 (((((((l.drop 6).drop 1).drop 1).drop 1).drop 2).drop 1).take 1))=I g.O:=by
 have:=s.d0;have:=s.d1;have:=s.z0;have:=s.z1;have:=s.s0;have:=s.s1;have:=s.b0;have:=s.b1;have:=s.p0;have:=s.p1;have:=s.o0;have:=s.o1;subst e;unfold iG jN;simp only[bY,qJ (De _ _),pD (De _ _)];exact⟨congrArg I (H5 (w:=6) z0 z1 (by decide)),congrArg I (H5 (w:=1) (b:=255) (by omega) (by omega) (by decide)),congrArg I (H5 (w:=1) (b:=255) (by omega) (by omega) (by decide)),congrArg I (H5 (w:=1) (b:=255) (by omega) (by omega) (by decide)),congrArg I (H5 (w:=2) (b:=65535) (by omega) (by omega) (by decide)),congrArg I (H5 (w:=1) (b:=255) (by omega) (by omega) (by decide)),congrArg I (H5 (w:=1) (b:=255) (by omega) (by omega) (by decide))⟩
theorem A3z(hK:10000<K)(w:f.Wf)(hb:HB h)(hr:rtB g=true){z:Int}(z0:0<=z)(z1:z<=281474976710655)(fb:f.body=iG (jN g z)):Ok (sk K (.agg f.cells) h) fun v h'=>∃p ml ll,v=.tuple [.agg [I f.seq,I f.Ao,I z,.ptr p 0],I 0]/\Ob h' p ml ll g (List.replicate g.B.toNat (Me.nil 0))/\h.next<=p/\h.next<=ml/\h.next<=ll/\Ext h h'/\HB h':=by
 obtain⟨s0,s1,s2,s3,s4,s5,s6⟩:=Biv (Ja hr) z0 z1 fb;have fl:=Fr.Bc w;simp only[sk,Aa];have x1:Ext h ((h.new (.cells f.cells 167)).new (.cells [.int .i64 0,.int .i64 0,.int .i64 0,.Ch] 160)):=(Av.new _ _).Da _;have g1:((h.new (.cells f.cells 167)).new (.cells [.int .i64 0,.int .i64 0,.int .i64 0,.Ch] 160)).get h.next=some (.cells f.cells 167):=by
  rw[Ay _ (aO _)];exact Ad _ _
 have g2:((h.new (.cells f.cells 167)).new (.cells [.int .i64 0,.int .i64 0,.int .i64 0,.Ch] 160)).get (h.next+1)=some (.cells [.int .i64 0,.int .i64 0,.int .i64 0,.Ch] 160):=Ad _ _;have n1:((h.new (.cells f.cells 167)).new (.cells [.int .i64 0,.int .i64 0,.int .i64 0,.Ch] 160)).next=h.next+2:=rfl
 rw[show(h.new (.cells f.cells 167)).next=h.next+1 from rfl];generalize (h.new (.cells f.cells 167)).new (.cells [.int .i64 0,.int .i64 0,.int .i64 0,.Ch] 160)=h1 at x1 g1 g2 n1⊢;have aa:=x1.hb hb;rw[show ∀k:EV->R,Nq 44 1 (.ptr h.next 5) none none none k=k (.slice h.next 5 44 44 false)from fun k=>rfl];have ul:(Bj f.body).length=44:=by rw[Bg,w.len]
 have bs:Bs h1 (.slice h.next 5 44 44 false) h.next 5 f.body:=by
  refine⟨44,false,_,f.cells,by rw[w.len],by rw[w.len];omega,g1,rfl,by rw[w.len,fl];omega,?_⟩;show(Bj f.body).take f.body.length=_;rw[w.len,<-ul,bW]
 refine(vP (K:=K) bs aa (by rw[w.len];omega) (by rw[w.len];omega)).Am ?_;rintro _ h5 ⟨C,q,rfl,d0,x5,ab,dA⟩;have ad:=x5.at aa g1;have a7:=x5.at aa g2;have al:=ab _ _ ad;have dB:h.next+1<C:=by have:=d0.ne;omega
 have a8:Ext h h5:=x1.trans x5;have hu:=w.u8;have hl:=w.len;simp only[Aa,As];rw[Hb al,Ai ad rfl (v:=I f.seq) rfl]
 try simp only[Aa,As]
 rw[Hb al,Ai ad rfl (v:=I f.Ao) rfl]
 try simp only[Aa,As]
 refine Ok.Bug (S:=fun i=>i=C) (h.next+1) (by have:=x5.next;omega) (fun i hi=>by have hi:i=C:=hi;omega) (by kernel_rfl) (by kernel_rfl) (fun _ hw=>by
  simp only[Se];rw[aQ (show Nat.succ h.next<=_ from hw)];rfl) (Ll (K:=K) (w:=6) d0.UP (C8 ab) (by omega) (by decide) (by decide) (by omega) hu) (fun _ _ p=>p.2.2.1) ?_
 rintro _ dC h6 s' ⟨rfl,a9,_,au⟩ sm c6 bb;have G:=sm.hb au;have d1:=a9.UQ sm;have x6:Ext h h6:=a8.then c6 fun j hj bj=>by
  have hj:j=C:=hj;omega
 have bn:=c6.at ab a7 (by show ¬h.next+1=C;omega);have up:∀{a hc:Ab},Ext h a->Av (fun i=>i=C) a hc->Ext h hc:=fun x c=>x.then c fun j hj bj=>by
  have hj:j=C:=hj;omega
 have Gw:∀{a hc:Ab} {i:Nat} {o:D3},Av (fun i=>i=C) a hc->HB a->a.get i=some o->i≠C->hc.get i=some o:=fun c hb g hi=>c.at hb g hi
 have lR:C<h6.next:=by obtain⟨_,g,_⟩:=d1.Ou;exact G _ _ g
 rw[s0];rw[Ax (l:=[I f.seq,I f.Ao,I z,.Ch]) rfl]
 try simp only[Aa,As]
 rw[G1 (by rcases bb with rfl|⟨w,rfl,_⟩<;>kernel_rfl)];refine Ok.mk rfl rfl fun h7 x7 bp n7=>?_
 have ae:=x7.hb G;have d17:=d1.ext G x7;have bt:=x7.at G bn;have bu:Ext h h7:=x6.trans x7;have t:∀b∈f.body.drop 6,b<256:=fun b hb=>hu b (aH hb)
 refine(Ll (K:=K) (w:=1) d17 ae (by omega) (by decide) (by decide) (by simp only[bB];omega) t).Am ?_;rintro _ h8 ⟨rfl,d2,c8,af⟩;have bx:=Gw c8 ae bt (by omega);have bz:=Gw c8 ae bp (by omega);have x8:=up bu c8;refine(Ll (K:=K) (w:=1) d2 af (by omega) (by decide) (by decide) (by simp only[bB];omega) (fun b hb=>t b (aH hb))).Am ?_;rintro _ h9 ⟨rfl,d3,c9,ag⟩;have b6:=Gw c9 af bx (by omega);have b7:=Gw c9 af bz (by omega);have x9:=up x8 c9;refine(Ll (K:=K) (w:=1) d3 ag (by omega) (by decide) (by decide) (by simp only[bB];omega) (fun b hb=>t b (aH (aH hb)))).Am ?_;rintro _ a ⟨rfl,d4,ca,u⟩;have cf:=Gw ca ag b6 (by omega);have aw:=Gw ca ag b7 (by omega);have xa:=up x9 ca;rw[s1,s2,s3];rw[Ax (l:=[I g.D,I g.Z,I g.S,.int .i64 0,.int .i64 0,.int .i64 0]) rfl]
 try simp only[Aa]
 refine Ok.mk rfl rfl fun hB xb ch _=>?_
 have J:=xb.hb u;have ed:=u _ _ aw;have ee:C<a.next:=by obtain⟨_,g,_⟩:=d4.Ou;exact u _ _ g
 have ct:=xb.at u cf;have cv:=xb.at u aw;have cw:=d4.ext u xb;have cx:Ext h hB:=xa.trans xb;refine(Ll (K:=K) (w:=2) cw J (by omega) (by decide) (by decide) (by simp only[bB];omega) (fun b hb=>t b (aH (aH (aH hb))))).Am ?_;rintro _ hc ⟨rfl,d5,cc,M⟩;have cy:=Gw cc J ct (by omega);have cz:=Gw cc J cv (by omega);have cA:=Gw cc J ch (by omega);have xc:=up cx cc;refine(Ll (K:=K) (w:=1) d5 M (by omega) (by decide) (by decide) (by simp only[bB];omega) (fun b hb=>t b (aH (aH (aH (aH hb)))))).Am ?_;rintro _ hd ⟨rfl,d6,cd,T⟩;have cB:=Gw cd M cy (by omega);have cG:=Gw cd M cz (by omega);have cT:=Gw cd M cA (by omega);have xd:=up xc cd;refine(Ll (K:=K) (w:=1) d6 T (by omega) (by decide) (by decide) (by simp only[bB];omega) (fun b hb=>t b (aH (aH (aH (aH (aH hb))))))).Am ?_;rintro _ he ⟨rfl,d7,ce,c5⟩;have c7:=Gw ce T cB (by omega);have da:=Gw ce T cG (by omega);have ay:=Gw ce T cT (by omega);have xe:=up xd ce;rw[s4,s5,s6];have l6:=c5 _ _ ay
 try simp only[Aa]
 refine Ok.gT ay rfl rfl (by show 3<6;decide) ?_
 try simp only[Aa]
 refine Ok.gT (Ae _ _ _) rfl rfl (by show 4<6;decide) ?_
 try simp only[Aa]
 refine Ok.gT (Ae _ _ _) rfl rfl (by show 5<6;decide) ?_;have xf:Ext h (((he.put a.next (.cells ([I g.D,I g.Z,I g.S,.int .i64 0,.int .i64 0,.int .i64 0].set 3 (I g.B)) 23)).put a.next (.cells (([I g.D,I g.Z,I g.S,.int .i64 0,.int .i64 0,.int .i64 0].set 3 (I g.B)).set 4 (I g.P)) 23)).put a.next (.cells ((([I g.D,I g.Z,I g.S,.int .i64 0,.int .i64 0,.int .i64 0].set 3 (I g.B)).set 4 (I g.P)).set 5 (I g.O)) 23)):=((xe.Ar (.inr (by have:=xa.next;omega)) l6 _).Ar (.inr (by have:=xa.next;omega)) l6 _).Ar (.inr (by have:=xa.next;omega)) l6 _;have az:(((he.put a.next (.cells ([I g.D,I g.Z,I g.S,.int .i64 0,.int .i64 0,.int .i64 0].set 3 (I g.B)) 23)).put a.next (.cells (([I g.D,I g.Z,I g.S,.int .i64 0,.int .i64 0,.int .i64 0].set 3 (I g.B)).set 4 (I g.P)) 23)).put a.next (.cells ((([I g.D,I g.Z,I g.S,.int .i64 0,.int .i64 0,.int .i64 0].set 3 (I g.B)).set 4 (I g.P)).set 5 (I g.O)) 23)).get a.next=some (.cells (gL ⟨g.D,g.Z,g.S,g.B,g.P,g.O⟩) 23):=Ae _ _ _
 have U:(((he.put a.next (.cells ([I g.D,I g.Z,I g.S,.int .i64 0,.int .i64 0,.int .i64 0].set 3 (I g.B)) 23)).put a.next (.cells (([I g.D,I g.Z,I g.S,.int .i64 0,.int .i64 0,.int .i64 0].set 3 (I g.B)).set 4 (I g.P)) 23)).put a.next (.cells ((([I g.D,I g.Z,I g.S,.int .i64 0,.int .i64 0,.int .i64 0].set 3 (I g.B)).set 4 (I g.P)).set 5 (I g.O)) 23)).get (h.next+1)=some (.cells [.int .i64 0,.int .i64 0,.int .i64 0,.Ch] 160):=by
  rw[Af _,Af _,Af _];exact c7
 have V:(((he.put a.next (.cells ([I g.D,I g.Z,I g.S,.int .i64 0,.int .i64 0,.int .i64 0].set 3 (I g.B)) 23)).put a.next (.cells (([I g.D,I g.Z,I g.S,.int .i64 0,.int .i64 0,.int .i64 0].set 3 (I g.B)).set 4 (I g.P)) 23)).put a.next (.cells ((([I g.D,I g.Z,I g.S,.int .i64 0,.int .i64 0,.int .i64 0].set 3 (I g.B)).set 4 (I g.P)).set 5 (I g.O)) 23)).get h6.next=some (.cells [I f.seq,I f.Ao,I z,.Ch] 160):=by
  rw[Af _,Af _,Af _];exact da
 generalize ((he.put a.next (.cells ([I g.D,I g.Z,I g.S,.int .i64 0,.int .i64 0,.int .i64 0].set 3 (I g.B)) 23)).put a.next (.cells (([I g.D,I g.Z,I g.S,.int .i64 0,.int .i64 0,.int .i64 0].set 3 (I g.B)).set 4 (I g.P)) 23)).put a.next (.cells ((([I g.D,I g.Z,I g.S,.int .i64 0,.int .i64 0,.int .i64 0].set 3 (I g.B)).set 4 (I g.P)).set 5 (I g.O)) 23)=hf at xf az U V⊢
 have e:=xf.hb hb;rw[Cy az rfl,Aj (n:=6) rfl];simp only[Aa];refine(EW (K:=K) hr e).Am ?_;rintro _ hg ⟨b,ml,ll,rfl,m,xg,ah,m1,m2,m3⟩;have l5:=ah _ _ (xg.at e V);have l2:=ah _ _ (xg.at e U);have lf:=xf.next
 try simp only[Aa]
 refine Ok.gT (xg.at e V) rfl rfl (by show 3<4;decide) ?_;rw[Cy (Ae _ _ _) rfl,Aj (n:=4) rfl];simp only[Aa];refine Ok.mS (by rw[Af _];exact xg.at e U) rfl rfl ?_;rw[Ej (Ae _ _ _) qK.1 qK.2 rfl];have n6:=x6.next
 have lx:=xg.next
 have q5:=e _ _ V;have q2:=e _ _ U;have go:∀i,hf.next<=i->((hg.put h6.next (.cells ([I f.seq,I f.Ao,I z,.Ch].set 3 (.ptr b 0)) 160)).put (h.next+1) (.cells ([I f.seq,I f.Ao,I z,.Ch].set 3 (.ptr b 0)) 160)).get i=hg.get i:=fun i hi=>by
  rw[Af _ (show h.next+1≠i by omega),Af _ (show h6.next≠i by omega)]
 exact .ret ⟨b,ml,ll,rfl,m.frame (go b (by omega)) (go ml (by omega)) (go ll (by omega)),by omega,by omega,by omega,((xf.trans xg).Ar (.inr (by have:=x6.next;omega)) l5 _).Ar (.inr (Nat.le_succ _)) l2 _,(ah.put l5 _).put l2 _⟩
section
theorem Bqp(g:Gm)(z:Int):∀b∈jN g z,b<256:=by
 unfold jN;simp only[List.forall_mem_append];exact⟨Jb _ _,Jb _ _,Jb _ _,Jb _ _,Jb _ _,Jb _ _,Jb _ _⟩
theorem Bt0(x:Me):∀b∈jE x,b<256:=by
 unfold jE;simp only[List.forall_mem_append];exact⟨Jb _ _,Jb _ _,Jb _ _,Jb _ _,Jb _ _,Jb _ _⟩
theorem US(es:List Me)(j:Int):∀i,∀b∈ju es j i,b<256
 | 0=>Jb _ _
 | i+1=>by
  show ∀b∈ju es j i++_,b<256;simp only[List.forall_mem_append];exact⟨US es j i,Bt0 _⟩
theorem UT:∀l:List (IntKind × Int),E8 (l.map fun p=>.int p.1 p.2) (l.map fun p=>.int p.1 p.2)=some true
 | []=>rfl
 | (k,a)::l=>by
  rw[dQ];unfold E8;rw[UT l];have:jO (.int k a) (.int k a)=some true:=by
   show Bb (Nat.beq (Pc k) (Pc k)) (some (iN a a)) none=_;rw[cQ,Ak,CW]
  rw[this]
theorem UU:∀l:List Nat,shaped (List.replicate l.length 0) (Bj l)=true
 | []=>rfl
 | a::l=>by
  show Bb (Nat.beq 0 0) (shaped (List.replicate l.length 0) (Bj l)) false=true;rw[UU l];rfl
def Fr.row(f:Fr):List (IntKind × Int):=[(.i64,f.kind),(.i64,f.Al),(.i64,f.off),(.i64,f.Ao),(.i64,f.seq)]++f.body.map fun b=>(.u8,Int.ofNat b)
theorem Bo1(wf:f.Wf)(k:EV->R):J5 iX (bin TT .neq 167) (.agg f.cells) (.agg f.cells) k=k (.bool false):=by
 have he:TT.eqs 167=some (List.replicate 49 0):=by kernel_rfl
 have rc:f.cells=f.row.map fun p=>.int p.1 p.2:=by
  unfold Fr.row Fr.cells Bj;rw[cR,List.map_map];rfl
 have a:jD TT 167 (.agg f.cells) (.agg f.cells)=some true:=by
  show(match TT.eqs 167 with|some sh=>Bb (shaped sh f.cells) (E8 f.cells f.cells) none|none=>none)=_;rw[he];simp only;have s:shaped (List.replicate 49 0) f.cells=true:=by
   have:=UU f.body;rw[wf.len]at this;exact this
  rw[s,Ak,rc,UT]
 show oB k (match jD TT 167 (.agg f.cells) (.agg f.cells)with|some b=>some (EV.bool (Bb b false true))|none=>none)=_;rw[a];rfl
theorem qL{x z:Int}(hR:iH x y z E=true)(n0:0<=zn)(n1:zn<=65535:=by omega)(a:i<=255:=by omega):(iM g E x y z zn i).Wf/\hY (iM g E x y z zn i)=true/\(iM g E x y z zn i).Al=zn/\(iM g E x y z zn i).off=i/\(iM g E x y z zn i).Ao=y/\(iM g E x y z zn i).seq=x:=by
 obtain⟨⟨e,j⟩,⟨m,p⟩,z0,z1⟩:=wM hR;unfold iM;split
 ·rename_i h0
  subst h0;refine⟨⟨wG (by rw[wJ];omega),wH (Bqp g z)⟩,?_,rfl,rfl,rfl,rfl⟩;simp only[hY,wi,aS,aV];omega
 ·refine⟨⟨wG (by rw[q7];omega),wH (US E i 2)⟩,?_,rfl,rfl,rfl,rfl⟩
  simp only[hY,wi,aS,aV];omega
theorem UW(g:Gm)(E:List Me)(x y z zn:Int)(h:i<n):(Gb g E x y z zn n)[i]? = some (iM g E x y z zn i):=by
 unfold Gb;rw[bD,cP h];rfl
theorem zp{x z:Int}(hR:iH x y z E=true)(n0:0<=zn)(n1:zn<=65535)(e:n<=200)(h:i<n):Og ((Gb g E x y z zn n).map Fr.cells).flatten (i*49) 49=some (iM g E x y z zn i).cells:=by
 refine tG (n:=49) _ _ _ (fun w hw=>?_) (by rw[bD,UW g E x y z zn h];rfl);obtain⟨f,a,rfl⟩:=cW.1 hw;unfold Gb at a;obtain⟨j,hj,rfl⟩:=cW.1 a;have:=dL.1 hj;exact Fr.Bc (qL hR n0 n1).1
theorem sl1 {p:Nat}(h2:2<=p)(hp:p<=n)(k:EV->R):iD 49 (.slice q 0 n n true) (some (.int .i64 1)) (some (.int .i64 (p:Int))) none k=k (.slice q 49 (p-1) (n-1) true):=by
 have:iV (.slice q 0 n n true) 49 (some (.int .i64 1)) (some (.int .i64 (p:Int))) none=some (.slice q 49 (p-1) (n-1) true):=by
  have b1:bound (some (.int .i64 (p:Int))) n n=some p:=by
   show Bb (Nat.ble p n) (some p) none=_;rw[aQ hp,Ak]
  have b2:bound (some (.int .i64 1)) p 0=some 1:=by
   show Bb (Nat.ble 1 p) (some 1) none=_;rw[aQ (by omega),Ak]
  unfold iV;simp only[b1,b2];rw[Ak,show Nat.beq 1 0=false from rfl,Bm,aQ (show Nat.succ 1<=n by omega),Ak];rfl
 unfold iD;rw[this];rfl
section
variable (A:Bv disp)(hK:10000<K){s:EV}{v2 v4:Nat}{x z:Int}{N:Nat}(hr:rtB g=true)(eN:(N:Int)=g.parts)(hE:∀x∈E,meR g x=true)(lE:E.length=g.B.toNat)(hR:iH x y z E=true)(n0:0<=zn)(n1:zn<g.D*g.Z)(l2:h0.next<=v2)(l4:h0.next<=v4)(zr:v2≠v4)
include hr eN hR n0 n1 l2 l4 zr
theorem Bp2(c r:Ah){u:EV}{M:Nat}:∀(n i:Nat) (h:Ab),N-i<n->i<=N->Ext h0 h->HB h->h.get v2=some (.cells [.int .i64 0,.int .i64 0,.int .i64 0,.Ch] 160)->h.get v4=some (.cells [I x,I y,I z,.ptr b 0] 160)->Cd h s q 167 49 N ((Gb g E x y z zn N).map Fr.cells).flatten->jg h u M 167 49 N ((Gb g E x y z zn N).map Fr.cells).flatten ->
 Ok (Tg c r K n s (.ptr v2 0) (.ptr v4 0) u (I N) (I i) h) fun v h'=>v=.tuple [.agg [I x,I y,I z,.ptr b 0],I 0]/\Ext h0 h'/\HB h':=by
 have sm:=Ja hr;have:=sm.b0;have:=sm.b1;have S:N<=200:=by unfold Gm.parts at eN;omega
 have zb:=sm.Ug;intro n;induction n with
 | zero=>intro i h T;omega
 | succ n U=>
  intro i h T hi C hb p G row e;rw[Tg];simp only[I,Ac];by_cases j:i<N
  case neg=>
   have:decide ((i:Int)<(N:Int))=false:=by simp;omega
   simp only[this,Aa,xI];rw[Cy G rfl,Aj (n:=4) rfl];simp only[Aa];have lv:=hb _ _ p;refine Ok.mS p rfl rfl ?_;rw[Ej (Ae _ _ _) qK.1 qK.2 rfl];exact .ret ⟨rfl,C.Ar (.inr l2) lv _,hb.put lv _⟩
  have:decide ((i:Int)<(N:Int))=true:=by simp;omega
  simp only[this,Aa,OL];have e1:=zp (g:=g) hR n0 (by omega) S j;have w1:=(qL (g:=g) hR n0 (by omega) (show i<=255 by omega)).1;have ix:=e.ix j;simp only[I]at ix;rw[ix,e.kC (by omega) e1]
  try simp only[Aa]
  refine Ok.mk (by simp) (Fr.Bc w1) fun J m V _=>?_
  have t:=m.hb hb;rw[Cn V rfl (Aj (Fr.Bc w1))];have a:=row.frame (h':=J) fun y=>m.get _ (hb _ _ (row.block y)) id
  rw[a.ix j,Cn (a.block (by omega)) rfl e1,Bo1 w1];simp only[Aa,OK,Ac];rw[Cl,show((i:Nat):Int)+1=((i+1:Nat):Int) by omega];exact U (i+1) J (by omega) (by omega) (C.trans m) t (m.at hb p) (m.at hb G) a (e.frame fun y=>m.get _ (e.lt hb y) id)
include A hK
theorem Bqi(hd:8<=d){ll:Nat}(m:Ob h b ml ll g E)(T:Ext h0 h)(hb:HB h)(U:h.get v2=some (.cells [.int .i64 0,.int .i64 0,.int .i64 0,.Ch] 160))(j:h.get v4=some (.cells [I x,I y,I z,.ptr b 0] 160))(row:Cd h s q 167 49 N ((Gb g E x y z zn N).map Fr.cells).flatten):
 Ok (uA (Ag TT disp K d false) (Ag TT disp K d true) K s (.ptr v2 0) (.ptr v4 0) h) fun v h'=>v=.tuple [.agg [I x,I y,I z,.ptr b 0],I 0]/\Ext h0 h'/\HB h':=by
 have sm:=Ja hr;have:=sm.b0;have:=sm.b1;have t:1<=N/\N<=200:=by unfold Gm.parts at eN;omega
 have lq:=hb _ _ (row.block t.1);have u:=hb _ _ j;have e2:((Gb g E x y z zn N).map Fr.cells).flatten[0*49+1]? = some (I zn):=by
  obtain⟨k,rfl⟩:∃k,N=k+1:=⟨N-1,by omega⟩;unfold Gb;rw[List.range_succ_eq_map];rfl
 simp only[uA,Aa,As];rw[Hb u,Cy j rfl,Aj (n:=4) rfl]
 try simp only[Aa,As]
 rw[show ∀k:EV->R,ir 49 s (.int .i64 0) k=k (.ptr q (0*49))from fun k=>row.ix t.1 .i64 k]
 try simp only[Aa,As]
 rw[Hb lq,Ai (row.block t.1) rfl (v:=I zn) e2]
 try simp only[Aa,As]
 refine Ok.bE (BS A (K:=K) (d:=d) (by omega) (by omega) hr (m.frame (Bx _ _) (Bx _ _) (Bx _ _)) (C8 hb) hR n0 n1) (fun _ _ p=>by obtain⟨_,_,_,_,_,_,_,_,w,_⟩:=p;exact w) ?_;rintro _ V h2 ⟨v9,q9,M,rfl,C,_,S,_,_,aa⟩ G a;have J:=a.hb hb;have lM:M.length=N:=by rw[S,rh];omega
 rw[lM]at C;rw[S,show g.parts.toNat=N by omega]at C;have e:=C.frame (h':=h2) fun _=>G.get _
 simp only[Aa,I,Ac];simp only[aB,aA];simp only[Aa,OM];rw[e.Hg];exact Bp2 hr eN hR n0 n1 l2 l4 zr _ _ K 0 h2 (by omega) (by omega) (T.trans a) J (a.at hb U) (a.at hb j) (row.frame fun y=>a.get _ (hb _ _ (row.block y)) id) e
include hE lE
theorem Blb(hd:8<=d){ll:Nat}(lm:h0.next<=ml/\h0.next<=ll):∀(n i:Nat) (h:Ab),(N-1)-i<n->i<=N-1->Ob h b ml ll g (pm E (2*i))->Ext h0 h->HB h->h.get v2=some (.cells [.int .i64 0,.int .i64 0,.int .i64 0,.Ch] 160)->h.get v4=some (.cells [I x,I y,I z,.ptr b 0] 160)->Cd h s q 167 49 N ((Gb g E x y z zn N).map Fr.cells).flatten ->
 Ok (Qu (Ag TT disp K d false) (Ag TT disp K d true) K n s (.ptr v2 0) (.ptr v4 0) (.slice q 49 (N-1) (N-1) true) (I (N-1:Nat)) (I i) h) fun v h'=>v=.tuple [.agg [I x,I y,I z,.ptr b 0],I 0]/\Ext h0 h'/\HB h':=by
 have sm:=Ja hr;have:=sm.b0;have:=sm.b1;have eP:=eN;unfold Gm.parts at eP;have pb:2<=N/\N<=200:=by omega
 have zb:=sm.Ug;intro n;induction n with
 | zero=>intro i h hn;omega
 | succ n ih=>
  intro i h hn hi m x0 hb g2 g4 row;rw[Qu];simp only[I,Ac];by_cases G:i<N-1
  case neg=>
   have:decide ((i:Int)<((N-1:Nat):Int))=false:=by simp;omega
   simp only[this,Aa];rw[zo (by omega)]at m;exact Bqi A hK hr eN hR n0 n1 l2 l4 zr hd m x0 hb g2 g4 row
  have:decide ((i:Int)<((N-1:Nat):Int))=true:=by simp;omega
  simp only[this,Aa,OP];have e1:=zp (g:=g) hR n0 (by omega) pb.2 (show i+1<N by omega);rw[show(i+1)*49=49+i*49 by omega]at e1;obtain⟨w1,_,_,fo,_⟩:=qL (g:=g) hR n0 (by omega) (show i+1<=255 by omega);have fb:(iM g E x y z zn (i+1)).body=iG (ju E ((i+1:Nat):Int) 2):=by unfold iM;rw[aG (Nat.succ_ne_zero i)]
  rw[Mw G,Cn (row.block (by omega)) rfl e1];generalize iM g E x y z zn (i+1)=f at w1 fo fb⊢
  try simp only[Aa]
  refine Ok.mk (by simp) (Fr.Bc w1) fun h3 C g3 _=>?_
  have a:=C.hb hb;have M:=x0.trans C;have t:=C.at hb g2;have e:=C.at hb g4;have u:=m.ext fun i o q=>C.at hb q
  have p:=row.frame (h':=h3) fun y=>C.get _ (hb _ _ (row.block y)) id
  rw[Ai g3 rfl (v:=I f.off) rfl];simp only[I,Ac];rw[Cl];have a0:Er (.tuple []) false=false/\Er (.tuple []) true=false:=⟨rfl,rfl⟩;rw[aJ (show ¬¬f.off=(i:Int)+1 from fun y=>y (by omega))];simp only[Aa,Cv];rw[Cy e rfl,Aj (n:=4) rfl]
  try simp only[Aa]
  rw[Cn g3 rfl (Aj (Fr.Bc w1))];have ft:f.off.toNat-1=i:=by omega
  refine(A7w (K:=K) hK sm hE lE (f:=f) (by rw[ft];exact u) a w1 (by omega) (by rw[fo];exact fb) (x:=I x) (y:=I y) (z:=I z) ⟨rfl,rfl,rfl⟩).Am ?_;rintro _ h4 ⟨rfl,m4,c4,S⟩;rw[show f.off.toNat=i+1 by omega]at m4;have T:=Az t u.row (by simp);have U:=Az t u.live (by simp);have V:=Az e u.row (by simp);have aa:=Az e u.live (by simp);have ab:=c4.at a t fun y=>y.elim T U
  have ad:=c4.at a e fun y=>y.elim V aa
  have gq:=p.block (show 0<N by omega);have ae:=Az gq u.row (by simp);have af:=Az gq u.live (by simp);have J:=p.frame (h':=h4) fun y=>c4.get _ (a _ _ gq) fun y=>y.elim ae af
  have ag:Ext h0 h4:=M.then c4 fun j hj G=>by rcases hj with rfl|rfl<;>omega
  simp only[I,Ac];simp only[aB,aA];simp only[Aa,Cv,OO,ON,Ac];rw[Cl,show((i:Nat):Int)+1=((i+1:Nat):Int) by omega];exact ih (i+1) h4 (by omega) (by omega) m4 ag S ab ad J
end
theorem A5u(A:Bv disp)(hK:10000<K)(hd:9<=d){s:EV}{x z:Int}{N:Nat}(hr:rtB g=true)(eN:(N:Int)=g.parts)(hE:∀x∈E,meR g x=true)(lE:E.length=g.B.toNat)(hR:iH x y z E=true)(n0:0<=zn)(n1:zn<g.D*g.Z)(row:Cd h s q 167 49 N ((Gb g E x y z zn N).map Fr.cells).flatten)(hb:HB h):
 Ok (Ag TT disp K d false 222 [s] h) fun v h'=>∃p,v=.tuple [.agg [I x,I y,I z,.ptr p 0],I 0]/\Ext h h'/\HB h':=by
 have J:=Ja hr;have:=J.b0;have:=J.b1;have eP:=eN;unfold Gm.parts at eP;have pb:2<=N/\N<=200:=by omega
 have zb:=J.Ug;obtain⟨⟨x0,x1⟩,⟨y0,y1⟩,z0,z1⟩:=wM hR;obtain⟨e,rfl⟩:∃k,d=k+1:=⟨d-1,by omega⟩;rw[A3n A (by omega)];simp only[OT,Aa];obtain⟨h1,e_,w1,g1,a3⟩:=nW h (.cells [.int .i64 0,.int .i64 0,.int .i64 0,.Ch] 160);rw[e_];have M:=w1.hb hb;have r1:=row.frame (h':=h1) fun y=>w1.get _ (hb _ _ (row.block y)) id
 rw[r1.Hg];simp only[I,Ac];have:decide ((N:Int)=0)=false:=aJ (by omega);simp only[this,Aa,OS];have t:0<N:=by omega
 have e1:=zp (g:=g) hR n0 (by omega) pb.2 t;rw[show ∀k:EV->R,ir 49 s (.int .i64 0) k=k (.ptr q (0*49))from fun k=>r1.ix t .i64 k,Cn (r1.block t) rfl e1];have fw:=(qL (g:=g) hR n0 (by omega) (show 0<=255 by omega)).1;refine(A3z hK fw M hr (z:=z) (by omega) (by omega) rfl).Am ?_;rintro _ h2 ⟨b,ml,ll,rfl,m,lb,a5,a6,x2,S⟩;rw[show(iM g E x y z zn 0).seq=x from rfl,show(iM g E x y z zn 0).Ao=y from rfl];have a7:Er (.tuple []) false=false/\Er (.tuple []) true=false:=⟨rfl,rfl⟩;simp only[Aa];refine Ok.mk rfl rfl fun h3 x3 g3 _=>?_
 have a:=x3.hb S;have T:Ext h1 h3:=x2.trans x3;have ah:Ext h h3:=w1.trans T;have ai:=T.at M g1;have t2:=x2.next
 simp only[I,Ac];simp only[aB,aA];simp only[Aa,Cv];rw[Ai g3 rfl (v:=.ptr b 0) rfl];have m3:=m.ext fun i o q=>x3.at S q
 refine(Jz (K:=K) m3 a).Am ?_;rintro _ h4 ⟨rfl,x4,a9⟩;rw[tM J,Au];have j:Ext h3 (h4.new (.cells (gL g) 23)):=x4.Da _;generalize h4.new (.cells (gL g) 23)=h5 at j⊢;have U:=j.hb a;have V:=ah.trans j;have aa:=row.frame (h':=h5) fun y=>V.get _ (hb _ _ (row.block y)) id
 rw[aa.Hg];simp only[I,Ac];rw[aJ (show ¬g.parts>(N:Int) by omega)];simp only[Aa,Cv,OR,OQ];rw[Ai (j.at a g3) rfl (v:=.ptr b 0) rfl];have m5:=m3.ext fun i o q=>j.at a q
 refine(Jz (K:=K) m5 U).Am ?_;rintro _ h6 ⟨rfl,x6,bj⟩;rw[tM J,Au];have C:Ext h5 (h6.new (.cells (gL g) 23)):=x6.Da _;generalize h6.new (.cells (gL g) 23)=h7 at C⊢;have al:=C.hb U;have ab:=V.trans C;have G:=j.trans C;have u:=row.frame (h':=h7) fun y=>ab.get _ (hb _ _ (row.block y)) id
 rw[<-eN,u.slice t];unfold I;rw[sl1 (by omega) (by omega)];rw[show ∀k:EV->R,Hg (.slice q 49 (N-1) (N-1) true) k=k (I (N-1:Nat))from fun _=>rfl];have p0:pm E (2*0)=List.replicate g.B.toNat (Me.nil 0):=by unfold pm;rw[lE];rfl
 have:=Blb A hK (h0:=h) (s:=s) (q:=q) (v2:=h.next) (v4:=h2.next) hr eN hE lE hR n0 n1 (aE _) (by omega) (by omega) (d:=e) (ml:=ml) (ll:=ll) (by omega) ⟨by omega,by omega⟩ K 0 h7 (by omega) (by omega) (by rw[p0];exact m3.ext fun i o q=>Ext.at G a q) ab al (Ext.at G a ai) (Ext.at G a g3) u;rw[u.slice t]at this;refine this.mono ?_;rintro v h' ⟨rfl,xx,ao⟩;exact⟨b,rfl,xx,ao⟩
end
section
section
variable (A:Bv disp)(hK:10000<K){x z:Int}{N:Nat}(hr:rtB g=true)(eN:(N:Int)=g.parts)(hE:∀x∈E,meR g x=true)(lE:E.length=g.B.toNat)(hR:iH x y z E=true)(n0:0<=zn)(n1:zn<g.D*g.Z)
include A hK hr eN hE lE hR n0 n1
theorem Bbu(hd:9<=d){v3 v6:Nat}{X:List (List EV)}(eX:X=(Gb g E x y z zn N).map fun f=>Bj (L6 f))(l3:h0.next<=v3)(l6:h0.next<=v6)(rx:Cd h0 sx qx 30 64 N X.flatten)(aa:HB h0):
 ∀(n i:Nat) (h:Ab) (s:EV) (q:Nat),N-i<n->i<=N->Ext h0 h->HB h->h.get v3=some (.cells Be 96)->h.get v6=some (.cells [.int .i64 0,.int .i64 0,.int .i64 0,.Ch] 160)->Cd h s q 167 49 i ((Gb g E x y z zn i).map Fr.cells).flatten->(0<i->h0.next<=q/\q≠v3/\q≠v6) ->
 Ok (U1 (Ag TT disp K d false) (Ag TT disp K d true) K n (I zn) (.ptr v3 0) (.ptr v6 0) s sx (I N) (I i) h) fun v h'=>∃p,v=.tuple [.agg [I x,I y,I z,.ptr p 0],I 0]/\Ext h0 h'/\HB h':=by
 have sm:=Ja hr;have:=sm.b0;have:=sm.b1;have eP:=eN;unfold Gm.parts at eP;have pb:2<=N/\N<=200:=by omega
 have zb:=sm.Ug;intro n;induction n with
 | zero=>intro i h s q hn;omega
 | succ n ih=>
  intro i h s q a1 hi V hb gv g6 row hq;rw[U1];simp only[I,Ac];by_cases C:i<N
  case neg=>
   obtain rfl:i=N:=by omega
   have:decide ((i:Int)<(i:Int))=false:=by simp
   simp only[this,Aa,xH,dr];refine Ok.Am (A5u A hK (d:=d) (by omega) hr eN hE lE hR n0 n1 row hb) ?_;rintro _ h2 ⟨p,rfl,u,e⟩;have G:=u.at hb g6;have J:=e _ _ G;simp only[Aa];refine Ok.mS G rfl rfl ?_;rw[Ej (Ae _ _ _) qK.1 qK.2 rfl];exact .ret ⟨p,rfl,(V.trans u).Ar (.inr l6) J _,e.put J _⟩
  have e3:decide ((i:Int)<(N:Int))=true:=by simp;omega
  simp only[e3,Aa,OE];have M:=rx.frame (h':=h) fun y=>V.get _ (aa _ _ (rx.block y)) id
  obtain⟨m,fr,fz,fo,_⟩:=qL (g:=g) hR n0 (by omega) (show i<=255 by omega);have e1:Og X.flatten (i*64) 64=some (Bj (L6 (iM g E x y z zn i))):=by
   rw[eX];refine tG (n:=64) _ _ _ (fun w hw=>?_) (by rw[bD,UW g E x y z zn C];rfl);obtain⟨f,hf,rfl⟩:=cW.1 hw;unfold Gb at hf;obtain⟨j,hj,rfl⟩:=cW.1 hf;have:=dL.1 hj;rw[Bg,ot (qL hR n0).1]
  have eS:Gb g E x y z zn (i+1)=Gb g E x y z zn i++[iM g E x y z zn i]:=BO g E x y z zn i;generalize iM g E x y z zn i=f at m fr fz fo e1 eS;have el:=ot m;rw[M.ix C,Cn (M.block (by omega)) rfl e1]
  try simp only[Aa]
  refine Ok.mk (by simp) (by rw[Bg,el]) fun h2 u g2 _=>?_
  have e:=u.hb hb;rw[Cy (u.at hb gv) rfl,Aj (n:=256) Pr];simp only[Aa];rw[Cn g2 rfl (Aj (by rw[Bg,el]))];have fa:=UX (K:=K) el (wO m) e hK zn i;have ea:=UY m fr;rw[fz,fo]at ea;rw[ea]at fa;simp only[I]at fa;refine fa.Am ?_;rintro _ h3 ⟨rfl,_,x3⟩;have ag:=x3.hb e;simp only[Aa];refine Ok.mk (by simp) (Fr.Bc m) fun h4 x4 g4 _=>?_
  have S:=x4.hb ag;have t:Ext h h4:=(u.trans x3).trans x4;have T:=row.frame (h':=h4) fun y=>t.get _ (hb _ _ (row.block y)) id
  simp only[Ac];simp only[aB,aA];simp only[Aa,OD];rw[Cn g4 rfl (Aj (Fr.Bc m))];refine Md T S rfl (by simp) (Fr.Bc m) (by omega) (by omega) ?_;intro h5 U n5 c5;simp only[OC,Ac];rw[Cl,show((i:Nat):Int)+1=((i+1:Nat):Int) by omega];have lv:=hb _ _ gv;have a4:=hb _ _ g6;have nx:=t.next
  have c:Av (fun j=>0<i/\j=q) h h5:=(Ext.to t).trans c5;refine ih (i+1) h5 _ (h4.next+1) (by omega) (by omega) (V.then c fun j hj a=>?_) (c5.hb S) (c.at hb gv fun y=>(hq y.1).2.1 y.2.symm) (c.at hb g6 fun y=>(hq y.1).2.2 y.2.symm) ?_ (fun _=>⟨by have:=V.next;omega,by omega,by omega⟩)
  ·have:=(hq hj.1).1
   have:=hj.2;omega
  ·rw[eS,cR,dW,show([f].map Fr.cells).flatten=f.cells from dO _];exact U
theorem Bm3(hd:10<=d){X:List (List EV)}(t:X=(Gb g E x y z zn N).map fun f=>Bj (L6 f))(rx:Cd h sx qx 30 64 N X.flatten)(hb:HB h):
 Ok (Ag TT disp K d false 207 [Uh,I zn,sx] h) fun v h'=>∃p,v=.tuple [.agg [I x,I y,I z,.ptr p 0],I 0]/\Ext h h'/\HB h':=by
 obtain⟨e,rfl⟩:∃k,d=k+1:=⟨d-1,by omega⟩;rw[A0q A (by omega)];simp only[OG,Uh,Aa];have a:Ext h ((h.new (.cells Be 96)).new (.cells [.int .i64 0,.int .i64 0,.int .i64 0,.Ch] 160)):=(Av.new _ _).Da _;have c1:((h.new (.cells Be 96)).new (.cells [.int .i64 0,.int .i64 0,.int .i64 0,.Ch] 160)).get h.next=some (.cells Be 96):=by rw[Ay _ (aO _)];exact Ad _ _
 have m:((h.new (.cells Be 96)).new (.cells [.int .i64 0,.int .i64 0,.int .i64 0,.Ch] 160)).get (h.next+1)=some (.cells [.int .i64 0,.int .i64 0,.int .i64 0,.Ch] 160):=Ad _ _;rw[show(h.new (.cells Be 96)).next=h.next+1 from rfl];generalize (h.new (.cells Be 96)).new (.cells [.int .i64 0,.int .i64 0,.int .i64 0,.Ch] 160)=u at a c1 m⊢;have j:=a.hb hb;have le:∀k:EV->R,Hg sx k=k (I N):=fun k=>rx.Hg k
 have C:N<=200:=by
  have sm:=Ja hr;have:=sm.b0;have:=sm.b1;unfold Gm.parts at eN;omega
 rw[le];exact Bbu (K:=K) A hK hr eN hE lE hR n0 n1 (d:=e) (by omega) t (aE h.next) (Nat.le_succ _) rx hb K 0 u .Aq 0 (by omega) (by omega) a j c1 m (Cd.nil _ _ _ _) (fun y=>absurd y (bN _))
end
end
section
structure Sb where
 cu:Int
 de:Bool
 st:Int
 be:Int
 ba:Int
 l0:Int
 l1:Int
def Sb.cells(s:Sb)(c:Nat):List EV:=[.ptr c 0,I s.cu,.bool s.de,I s.st,I s.be,I s.ba,I s.l0,I s.l1]
abbrev Afo(h:Ab)(q c:Nat)(s:Sb):Prop:=h.get q=some (.cells (s.cells c) 135)
section
variable{s:Sb}
theorem Bjx(g:Afo h q B.c s):Pz K (.ptr q 0) h=some (I s.cu,h):=by
 simp only[Pz,Aa];rw[Ai g rfl rfl]
theorem Bho(g:Afo h q B.c s):P8 K (.ptr q 0) h=some (.bool s.de,h):=by
 simp only[P8,Aa];rw[Ai g rfl rfl]
theorem Ee.sb(c:Ee h h' B X F Y)(hb:HB h)(fq:F q)(g:Afo h q B.c s):Afo h' q B.c s:=by
 show h'.get q=_;rw[c.k.get _ (hb _ _ g) fun w=>w fq];exact g
theorem Bbs(c:Cc X L mt)(u:X.S.g.D*X.S.g.Z=n):∀(f i:Nat) (h:Ab),n-i<f->i<=n->C0 h B X F->Afo h q B.c s ->
 Ok (Iy K f (.ptr q 0) (I 0) (I n) (I i) h) fun v h'=>v=I 0/\Ext h h':=by
 intro f;induction f with
 | zero=>intro i h j;omega
 | succ f m=>
  intro i h j G C g;have bd:=C.sm.Ug;rw[Iy];simp only[I,Ac];by_cases p:i<n
  ·have:decide ((i:Int)<(n:Int))=true:=by simp;omega
   simp only[this,Aa,Zm];rw[Ai g rfl rfl];simp only[Ef,Aa];rw[C.ic]
   try simp only[Aa]
   refine(Jq (K:=K) C.M.s C.hb (z:=i) ⟨by omega,by omega⟩).Am ?_;rintro _ h2 ⟨rfl,e⟩;rw[c.E6];simp only[Aa,Zu,I,Ac];rw[Cl,show((i:Nat):Int)+1=((i+1:Nat):Int) by omega];refine(m (i+1) h2 (by omega) (by omega) (C.Y8 e).C (e.at C.hb g)).mono ?_;rintro v J ⟨a,t⟩;exact⟨a,e.trans t⟩
  ·have:decide ((i:Int)<(n:Int))=false:=by simp;omega
   simp only[this,Aa,Zo];exact .ret ⟨rfl,Av.refl _⟩
theorem UZ(hK:10000<K)(c:Cc X L mt)(C:C0 h B X F)(g:Afo h q B.c s):Ok (Lz K (.ptr q 0) h) fun v h'=>v=I 0/\Ext h h':=by
 simp only[Lz,Aa];rw[Ai g rfl rfl];simp only[Gr,Aa];rw[C.ji];refine(Jz (K:=K) C.map C.hb).Am ?_;rintro _ h2 ⟨rfl,j,m⟩;rw[Nj C.sm,Au];have x:Ext h (h2.new (.cells (gL X.S.g) 23)):=j.Da _;have bd:=C.sm.Ug;obtain⟨n,a⟩:=bA (show 0<=X.S.g.D*X.S.g.Z by omega);rw[a];refine(Bbs c a K 0 _ (by omega) (by omega) (C.Y8 x).C (x.at C.hb g)).mono ?_;rintro v t ⟨e,p⟩;exact⟨e,x.trans p⟩
theorem U'(C:C0 h B X F)(g:Afo h q B.c s)(b0:0<=s.cu)(b1:s.cu<1000:=by omega):Ok (Nv K (.ptr q 0) h) fun v h'=>v=.bool (decide (s.cu+1=X.S.g.B+3))/\Ext h h':=by
 have sb:=C.sm.b0;have a:=C.sm.b1;simp only[Nv,Aa,As];have lq:=C.hb _ _ g;rw[Hb lq,Ai g rfl rfl]
 try simp only[Aa,As,I,Ac]
 rw[Hb lq,Ai g rfl rfl]
 try simp only[Aa,As]
 rw[mN (v:=.ptr B.b 0) (by simp only[Gr,Aa];rw[C.lift.ji])];refine Ok.bE (Jz (K:=K) C.lift.map C.lift.hb) (fun _ _ p=>p.2.1) ?_;rintro _ m h2 ⟨rfl,t,e⟩ sm j;simp only[gV,gL,Aa,I,Ac];rw[Cl,Cl];exact .ret ⟨rfl,j⟩
end
theorem Bua {b:Int}{T:Ig}{t:Nat}{a:Int}{k:EV->R}(hb:0<b)(j:0<=a):iK (bin T .rem t) (.int .i64 a) (.int .i64 b) k=k (.int .i64 (a%b)):=by
 obtain⟨n,rfl⟩:=bA (Int.le_of_lt hb);show oB k (Bb (iN (.ofNat n) 0) none (some (.int .i64 (a.tmod (.ofNat n)))))=_;have:iN (.ofNat n) 0=false:=by
  show Nat.beq n 0=false;cases n with
  | zero=>exact absurd hb (by decide)
  | succ n=>rfl
 rw[this,Bm];have e:a.tmod (.ofNat n)=a%n:=Int.tmod_eq_emod_of_nonneg j;rw[e];rfl
def Sb.next(s:Sb)(n:Int)(ok de:Bool)(be ba:Int):Sb:=⟨(s.cu+1)%(n+3),de,s.st+1,be,ba,if ok=true then be else s.l0,if ok=true then s.st+1 else s.l1⟩
section
variable{s:Sb}
theorem C0.qM(C:C0 h B X F)(fq:F q)(g:Afo h q B.c s)(s':Sb):C0 (h.put q (.cells (s'.cells B.c) 135)) B X F/\Afo (h.put q (.cells (s'.cells B.c) 135)) q B.c s'/\Av (fun i=>i=q) h (h.put q (.cells (s'.cells B.c) 135)):=by
 have lq:=C.hb _ _ g;have c:Av (fun i=>i=q) h (h.put q (.cells (s'.cells B.c) 135)):=by
  exact Av.Ar (S:=fun i=>i=q) (Av.refl h) (.inl rfl) lq _
 exact⟨C.iI c (fun i e _=>by subst e;exact fq) (C.hb.put lq _),Ae _ _ _,c⟩
theorem Bdm(c r:Ah)(C:C0 h B X F)(fq:F q)(g:Afo h q B.c s)(c0:0<=s.cu)(c1:s.cu<X.S.g.B+3)(t0:0<=s.st)(t1:s.st<1000)(ok de:Bool)(e be ba:Int):
 Ok (Oy c r K (.ptr q 0) (.bool ok) (I e) (I be) (I ba) (.bool de) h) fun v h'=>v=.tuple [.bool ok,I e]/\C0 h' B X F/\Afo h' q B.c (s.next X.S.g.B ok de be ba)/\Av (fun i=>i=q) h h':=by
 have sb:=C.sm.b0;have aj:=C.sm.b1;simp only[Oy,Aa];rw[Ai g rfl (v:=I s.st) rfl];simp only[I,Ac];rw[Cl];refine Ok.st (({ s with st:=s.st+1 }:Sb).cells B.c) g rfl rfl rfl ?_;obtain⟨a,m,U⟩:=C.qM fq g { s with st:=s.st+1 };generalize h.put q (.cells (({ s with st:=s.st+1 }:Sb).cells B.c) 135)=h1 at a m U⊢;have lq:=a.hb _ _ m
 try simp only[Aa,As]
 rw[Hb lq,Ai m rfl (v:=I s.cu) rfl]
 try simp only[Aa,As,I,Ac]
 rw[Cl,Hb lq,Ai m rfl rfl]
 try simp only[Aa,As]
 rw[mN (v:=.ptr B.b 0) (by simp only[Gr,Aa];rw[a.lift.ji])];refine Ok.bE (Jz (K:=K) a.lift.map a.lift.hb) (fun _ _ p=>p.2.1) ?_;rintro _ al h2 ⟨rfl,ao,aq⟩ sm G;have C2:=(a.Y8 G).C;have V:=G.at a.hb m;simp only[gV,gL,Aa,I,Ac];rw[Cl,Bua (by omega) (by omega)]
 try simp only[Aa,As]
 rw[G1];refine Ok.st (({ s with st:=s.st+1,cu:=(s.cu+1)%(X.S.g.B+3) }:Sb).cells B.c) V rfl rfl rfl ?_;obtain⟨C3,J,x3⟩:=C2.qM fq V { s with st:=s.st+1,cu:=(s.cu+1)%(X.S.g.B+3) };generalize h2.put q (.cells (({ s with st:=s.st+1,cu:=(s.cu+1)%(X.S.g.B+3) }:Sb).cells B.c) 135)=h3 at C3 J x3⊢
 try simp only[Aa]
 refine Ok.st (({ s with st:=s.st+1,cu:=(s.cu+1)%(X.S.g.B+3),be:=be }:Sb).cells B.c) J rfl rfl rfl ?_;obtain⟨C4,M,x4⟩:=C3.qM fq J { s with st:=s.st+1,cu:=(s.cu+1)%(X.S.g.B+3),be:=be };generalize h3.put q (.cells (({ s with st:=s.st+1,cu:=(s.cu+1)%(X.S.g.B+3),be:=be }:Sb).cells B.c) 135)=h4 at C4 M x4⊢
 try simp only[Aa]
 refine Ok.st (({ s with st:=s.st+1,cu:=(s.cu+1)%(X.S.g.B+3),be:=be,ba:=ba }:Sb).cells B.c) M rfl rfl rfl ?_;obtain⟨C5,T,x5⟩:=C4.qM fq M { s with st:=s.st+1,cu:=(s.cu+1)%(X.S.g.B+3),be:=be,ba:=ba };generalize h4.put q (.cells (({ s with st:=s.st+1,cu:=(s.cu+1)%(X.S.g.B+3),be:=be,ba:=ba }:Sb).cells B.c) 135)=h5 at C5 T x5⊢
 try simp only[Aa]
 refine Ok.st (({ s with st:=s.st+1,cu:=(s.cu+1)%(X.S.g.B+3),be:=be,ba:=ba,de:=de }:Sb).cells B.c) T rfl rfl rfl ?_;obtain⟨u,j,x6⟩:=C5.qM fq T { s with st:=s.st+1,cu:=(s.cu+1)%(X.S.g.B+3),be:=be,ba:=ba,de:=de };generalize h5.put q (.cells (({ s with st:=s.st+1,cu:=(s.cu+1)%(X.S.g.B+3),be:=be,ba:=ba,de:=de }:Sb).cells B.c) 135)=h6 at u j x6⊢;have xx:Av (fun i=>i=q) h h6:=((((U.trans (Ext.to G)).trans x3).trans x4).trans x5).trans x6;cases ok with
 | false=>
  simp only[Aa,NR];exact .ret ⟨rfl,u,j,xx⟩
 | true=>
  have t:=u.hb _ _ j;simp only[Aa,As];rw[Hb t,Ai j rfl (v:=I be) rfl]
  try simp only[Aa,As]
  rw[Hb t,Ai j rfl (v:=I (s.st+1)) rfl]
  try simp only[Aa,As]
  rw[Ax (l:=[I be,I (s.st+1)]) rfl,G1];refine Ok.st ((s.next X.S.g.B true de be ba).cells B.c) j rfl rfl rfl ?_;obtain⟨C7,g7,x7⟩:=u.qM fq j (s.next X.S.g.B true de be ba);exact .ret ⟨rfl,C7,g7,xx.trans x7⟩
end
theorem Bmh {a n:Int}(h0:0<=a)(j:a<n+3):decide ((a+1)%(n+3)=0)=decide (a+1=n+3):=by
 by_cases e:a+1=n+3
 ·rw[e,Int.emod_self];simp
 ·have:(a+1)%(n+3)=a+1:=Int.emod_eq_of_lt (by omega) (by omega)
  rw[this];simp only[e,aA];exact aJ (by omega)
structure Tk(X Y:Co)(L:List (List Nat))(mt:Int->Int):Prop where
 j:Jc Y L mt
 r:Rd' X Y
 zs:Y.S.dr.dv.zs=X.S.dr.dv.zs
 cur:Y.cur=X.cur
theorem Tk.refl(J:Jc X L mt):Tk X X L mt:=⟨J,Rd'.refl X,rfl,rfl⟩
theorem Tk.trans {Z:Co}(a:Tk X Y L mt)(b:Tk Y Z L mt):Tk X Z L mt:=⟨b.j,a.r.trans b.r,b.zs.trans a.zs,b.cur.trans a.cur⟩
theorem Jc.tick(J:Jc X L mt):Tk X { X with S:=X.S.Es } L mt:=by
 have q:=Dq.Es J.c.c;exact⟨⟨J.c.q0 q,J.sq.es rfl,J.fr⟩,⟨rfl,⟨rfl,rfl,rfl,rfl⟩,rfl,fun z=>Na q z,⟨rfl,rfl⟩⟩,rfl,rfl⟩
section
variable (A:Bv disp)(hK:10000<K){s:Sb}
include A hK
theorem Bpc(C:C0 h B X F)(J:Jc X L mt)(fq:F q)(g:Afo h q B.c s)(hd:29<=d)(j:Int):Ok (Ag TT disp K d false 150 [.ptr q 0,I j] h) fun v h'=>v=.tuple [.bool true,I 0]/\∃Y,Ee h h' B X F Y/\Tk X Y L mt:=by
 obtain⟨e,rfl⟩:∃k,d=k+1:=⟨d-1,by omega⟩;rw[Ant A (by omega)];simp only[NL,Aa];rw[Ai g rfl rfl];simp only[Gr,Aa];rw[C.ji]
 try simp only[Aa]
 refine(pK (K:=K) C.sm C.map C.hb j).Am ?_;rintro _ h2 ⟨rfl,U⟩;have c2:=C.Y8 U;have rg:=rG C.sm (q6 C.map.ok j);have st:(Xj X.es j).1.state=1->∃b:Nat,j=b/\X.es[b]? = some (Xj X.es j).1:=fun a=>by
  unfold Xj at a⊢;split at a
  ·rename_i hj
   rw[aI hj];refine⟨j.toNat,by omega,?_⟩;rw[aD (by omega)];rfl
  ·cases a
 generalize Xj X.es j=P at rg st⊢;obtain⟨x,n⟩:=P;simp only[Aa];refine Ok.mk rfl rfl fun h3 V e3 _=>?_
 have c3:=c2.trans (c2.C.Y8 V);rw[Ai e3 rfl (v:=I x.state) rfl];simp only[I,Ac];by_cases a:x.state=1
 case neg=>
  simp only[a,aR,aC,Aa];exact .ret ⟨rfl,X,c3,Tk.refl J⟩
 simp only[a,aB,aA,Aa];obtain⟨b,rfl,hx⟩:=st a;obtain⟨bs,hL,lv⟩:=J.c.at hx a;have t:bs.length=32:=by
  obtain⟨e,we,eb,_⟩:=lv.rc.ex;rw[<-eb];exact we.1
 have T:=c3.sb C.hb fq g;have lq:=c3.hb _ _ T;have l6:=c3.hb _ _ e3;simp only[NK,Aa,As];rw[Hb lq,Ai T rfl rfl]
 try simp only[Aa,As]
 rw[mN (v:=.ptr B.m 0) (by simp only[Ef,Aa];rw[c3.C.lift.ic])]
 try simp only[Aa,As]
 rw[Hb l6,Cn e3 rfl (Aj (n:=6) rfl)]
 try simp only[Aa,As]
 have ck:=UI A hK (d:=e) (by omega) c3.C.lift.M c3.C.lift.hb rg.1 rg.2;have mk:=CV X.S x;rw[J.c.check lv]at ck mk;have t1:=J.tick;have t2:=t1.trans t1.j.tick;refine Ok.bC (S:=fun j=>¬B.fr F j) ck (fun _ _ p=>p.2.2.2.1) ?_;rintro _ af h4 s' ⟨rfl,bw,M',_,u⟩ sm ch G;have c4:=c3.C.H2 (M'.same sm) ch (sm.hb u) mk;simp only at c4 bw;have ul:(Bj bs).length=32:=by rw[Bg,t]
 simp only[Aa];rw[G1 (by rcases G with rfl|⟨w,rfl,_⟩<;>kernel_rfl)];refine Ok.st (Bj bs) (Ad _ _) rfl (by show Ga (Bj bs)=32;rw[Bh,ul]) (Bn (by rw[bV];exact ul.symm)) ?_;obtain⟨h5,e_,x5,_,_⟩:=nP h4 (.cells (List.replicate 32 (EV.int .u8 0)) 49) (.cells (Bj bs) 49);rw[e_];have c5:=c4.trans (c4.C.Y8 x5);simp only[I,Ac];rw[show decide ((0:Int)=34)=false from rfl];simp only[Aa,NJ,Ac,aC];exact .ret ⟨rfl,_,c3.trans c5,t2⟩
end
end
section
theorem Bja {S:Jo}(ev:S.ev = [])(up:S.dv.down=false){z:Int}(e:S.dv.has z=true)(hs:¬(S.dv.zs z.toNat).st=4){o:Nat}{x:List EV}(a:(S.dv.zs z.toNat).l[o]? = some x):S.read z o=({ S with dv:=S.dv.tick },x,0):=by
 have hlen:=(aY.1 a).1;unfold Jo.read;rw[Vz ev];unfold Dv.begin Dv.read;rw[s_ up e,aI rfl,aG (fun y=>y rfl)];unfold jB;rw[aG hs,aI (by omega),bF,a];rfl
theorem Bmm{ar m:Nat}(e:h.get ar=some (.cells (arC m cur Br) 152))(a:i<3):Tq K (.ptr ar 0) (I i) h=some (.tuple [I (cur i),I (Br i)],h):=by
 simp only[Tq,dr];rw[CX a,Au];simp only[Aa,NF];unfold I;rw[Xi a]
 try simp only[Aa,dS]
 rw[Ai e rfl (CM a),Xi a]
 try simp only[Aa]
 rw[Ai e rfl (CK a)]
theorem U_:TT.size 69=some 3/\TT.agg 69=some true:=⟨by kernel_rfl,by kernel_rfl⟩
theorem Bbw(C:C0 h B X F):Ok (Rs K (.ptr B.c 0) h) fun v h'=>v=.agg [I X.gen,I X.ep,I X.nx]/\Ext h h':=by
 simp only[Rs,Aa];have gc:(h.new (.cells [.int .i64 0,.int .i64 0,.int .i64 0] 69)).get B.c=some (.cells (X.cells B) 109):=Ext.at (Av.new h _) C.hb C.core;rw[Cn gc rfl (l':=[I X.gen,I X.ep,I X.nx]) rfl];refine Ok.st [I X.gen,I X.ep,I X.nx] (Ad _ _) rfl rfl rfl ?_;rw[Qz (Ae _ _ _) U_.1 U_.2 rfl];exact .ret ⟨rfl,(Av.new h _:Ext _ _).Ar (.inr (aE _)) (aO _) _⟩
theorem Rd'.Bpi {Z:Co}(r:Rd' X Y)(o:jd Y Z):jd X Z:=⟨o.g.trans r.g,⟨o.nm.1.trans r.nm.2.1,o.nm.2.trans r.nm.2.2.2⟩,by have:=o.gen;have:=r.nm.1;omega,by have:=o.nx;have:=r.nm.2.2.1;omega⟩
structure Sk(s:Sb)(n:Int)(i:Nat):Prop where
 c0:0<=s.cu
 c1:s.cu<n+3
 de:s.de=false
 ba:s.ba=0
 t0:0<=s.st
 t1:s.st<=i
def vQ(h:Ab)(B:Cb)(X:Co)(F:Nat->Prop)(q:Nat)(s:Sb)(L:List (List Nat))(mt:Int->Int)(i:Nat):EV->Ab->Prop:=fun v h'=>∃(Y:Co) (s':Sb),v=.tuple [.bool (decide (s'.cu=0)),I 0]/\C0 h' B Y F/\Av (fun i=>¬F i\/i=q) h h'/\Afo h' q B.c s'/\Sk s' X.S.g.B (i+1)/\Jc Y L mt/\jd X Y/\s'.cu=(s.cu+1)%(X.S.g.B+3)/\s'.st=s.st+1
section
variable (A:Bv disp)(hK:10000<K){s:Sb}
include A hK
theorem Bdl(C:C0 h B X F)(J:Jc X L mt)(hd:17<=d){z:Int}(u:0<=Bp X.S.g z){o:Nat}{x:List EV}(T:(X.S.dr.dv.zs z.toNat).l[o]? = some x){k:EV->Ab->R}
 (e:∀h' Y,x.length=64->Ee h h' B X F Y->Tk X Y L mt->Ok (k (.tuple [.agg x,I 0]) h') Q) :
 Ok (Am (Bu K (.ptr B.m 0) h) fun v h=>Am (Ag TT disp K d false 106 [v,I z,I o] h) k) Q:=by
 obtain⟨lt,D,p,bl,ql,np,qq,cc,G,a⟩:=C.M.s;obtain⟨_,U,V,_⟩:=Tj J.c.c u;have st:=(J.c.s2 _ U).1;have rc:=Bja J.c.c.ev J.c.c.up V (by omega) T;have t:=rv (CU X.S.dr z o);rw[Vd a.H2,Au];have rd:=VA (K:=K) A (d:=d) (by omega) (fun k e=>rn A (by omega) X.S.dr k e) a.drv C.hb z o;rw[rc]at rd t;refine Ok.Am rd ?_;rintro _ h' ⟨rfl,hlen,d2,c2,j⟩;obtain⟨M',k'⟩:=C.M.drv C.hb a d2 c2;exact e h' _ hlen (C.H2 M' k' j t) J.tick
theorem A83(hd:19<=d){z:Int}(hz:0<=Bp X.S.g z){W:List (List EV)}(eW:(X.S.dr.dv.zs z.toNat).l=W)(hn:W.length<=64)(u:∀j,F j->j<h.next):∀(f i:Nat) (t:Ab) (Y:Co) (s:EV) (q:Nat),W.length-i<f->i<=W.length->Ee h t B X F Y->Tk X Y L mt->C0 t B Y (fun j=>F j\/(0<i/\j=q))->(0<i->h.next<=q)->Cd t s q 30 64 i (W.take i).flatten ->
 Ok (Km (Ag TT disp K d false) (Ag TT disp K d true) K f (I z) (.ptr B.m 0) s (I W.length) (I i) t) fun v h'=>∃(sx:EV) (qx:Nat) (Z:Co),v=.tuple [sx,.bool true,I 0]/\Ee h h' B X F Z/\Tk X Z L mt/\Cd h' sx qx 30 64 W.length W.flatten:=by
 intro f;induction f with
 | zero=>intro i t Y s q hf;omega
 | succ f ih=>
  intro i t Y s q hf hi c1 t1 C1 hq row;rw[Km];simp only[I,Ac];by_cases G:i<W.length
  case neg=>
   obtain rfl:i=W.length:=by omega
   have:decide ((W.length:Int)<(W.length:Int))=false:=by simp
   rw[bW]at row;simp only[this,Aa,NV];exact .ret ⟨s,q,Y,rfl,c1,t1,row⟩
  have:decide ((i:Int)<(W.length:Int))=true:=by simp;omega
  simp only[this,Aa,OA];have eT:=cD G;have eg:(Y.S.dr.dv.zs z.toNat).l[i]? = some W[i]:=by rw[t1.zs,eW,aD G]
  generalize W[i]=l at eT eg;refine Bdl (L:=L) (mt:=mt) A hK C1 t1.j (d:=d) (by omega) (by rw[t1.r.g];exact hz) eg fun h2 Z hl c2 t2=>?_
  have J:Ee h h2 B X F Z:=c1.trans (c2.less fun j=>.inl);have t13:=t1.trans t2;simp only[Aa];refine Ok.mk rfl hl fun M x3 e3 _=>?_
  have c3:=c2.trans (c2.C.Y8 x3);have p:=J.trans (J.C.Y8 x3);have a1:Er (.tuple []) false=false/\Er (.tuple []) true=false:=⟨rfl,rfl⟩;simp only[I,Ac];rw[show decide ((0:Int)=34)=false from rfl];simp only[Aa,Cv];rw[show decide ((0:Int)=32)=false from rfl];simp only[Aa,Cv,N_,N',NZ,NY,I,Ac];simp only[aB,aA];simp only[Aa,NX];rw[Cn e3 rfl (Aj hl)];have T:=row.frame (h':=M) fun y=>c3.k.get _ (c1.hb _ _ (row.block y)) fun w=>w (.inr ⟨y,rfl⟩)
  have U:=p.hb;refine Md (z:=List.replicate 64 (EV.int .u8 0)) (v:=.agg l) T U rfl (by simp) hl (by omega) (by omega) fun h6 V a2 c6=>?_
  have ae:=c6.hb U;have C6:=c3.C.tR c6 (fun j hj hl=>.inr ⟨hj.1,hj.2⟩) ae;have af:C0 h6 B Z (fun j=>F j\/(0<i+1/\j=M.next+1)):=C6.less fun j hj=>by
   rcases hj with hj|⟨_,rfl⟩
   ·exact .inl (.inl hj)
   ·exact .inr ⟨by omega,by omega⟩
  have ag:Kf F M h6:=c6.mono fun j hj y=>by
   have a:=u j y;have b:=hq hj.1;have e:=hj.2;omega
  have ah:Ee h h6 B X F Z:=p.trans ⟨C6.less fun j hj=>.inl (.inl hj),ag,Ck.refl _⟩;simp only[NW,Ac];rw[Cl,show((i:Nat):Int)+1=((i+1:Nat):Int) by omega];have aq:=p.k.next
  refine ih (i+1) h6 Z (.slice (M.next+1) 0 (i+1) (i+1) true) (M.next+1) (by omega) (by omega) ah t13 af (fun _=>by omega) ?_;rw[eT,dW,show([l]).flatten=l by simp];exact V
theorem Bro(C:C0 h B X F)(J:Jc X L mt)(g:Afo h q B.c s){z:Int}(u:0<=Bp X.S.g z)(hd:20<=d):Ok (Ag TT disp K d false 206 [.ptr q 0,I z] h) fun v h'=>∃(sx:EV) (qx:Nat) (Z:Co),v=.tuple [sx,.bool true,I 0]/\Ee h h' B X F Z/\Tk X Z L mt/\Cd h' sx qx 30 64 (X.S.dr.dv.zs z.toNat).l.length (X.S.dr.dv.zs z.toNat).l.flatten:=by
 obtain⟨e,rfl⟩:∃k,d=k+1:=⟨d-1,by omega⟩;rw[Aoz A (by omega)];simp only[OB,Aa];rw[Ai g rfl rfl];simp only[Ef,Aa];rw[C.ic]
 try simp only[Aa]
 obtain⟨_,T,U,_⟩:=Tj J.c.c u;obtain⟨D,V,hn,e1,e2,e3⟩:∃(D V:Nat),(X.S.dr.dv.zs z.toNat).l.length<=64/\Bu K (.ptr B.m 0) h=some (.ptr D 0,h)/\D7 K (.ptr D 0) h=some (.ptr V 0,h)/\Qd K (.ptr V 0) (I z) h=some (I (X.S.dr.dv.zs z.toNat).l.length,h):=by
  obtain⟨lt,D,p,bl,ql,np,qq,cc,G,a⟩:=C.M.s;obtain⟨V,M',qc,qh,cs,hs,ms,F',t⟩:=a.drv.Ou;have w:=t.dev.wf;refine⟨D,V,?_,Vd a.H2,CG t,?_⟩
  ·have:=(w.zs z.toNat (by omega)).len
   have:=w.size;omega
  ·rw[Bcq t.dev,aI U]
 rw[e1,Au,e2,Au,e3,Au];exact A83 A hK (d:=e) (by omega) u rfl hn (fun j hj=>C.M.lt _ (.inl hj)) K 0 h X .Aq 0 (by omega) (by omega) (Ee.refl C) (Tk.refl J) (C.less fun j hj=>by rcases hj with hj|⟨y,_⟩;exact hj;omega) (fun y=>by omega) (Cd.nil _ _ _ _)
theorem Bh3(C:C0 h B X F)(J:Jc X L mt)(fq:F q)(g:Afo h q B.c s)(g1:1<=X.gen)(u:i<3)(hd:22<=d):Ok (Ag TT disp K d false 178 [.ptr q 0,I i] h) fun v h'=>v=.tuple [.bool true,I 0]/\∃Y,Ee h h' B X F Y/\Tk X Y L mt:=by
 obtain⟨e,rfl⟩:∃k,d=k+1:=⟨d-1,by omega⟩;rw[Alk A (by omega)];simp only[NQ,Aa];rw[Ai g rfl rfl];simp only[xG,Aa];rw[C.Hb]
 try simp only[Aa]
 rw[Bmm C.ar u,Au];have dz:=(J.c.ar i u).1;have T:0<=Bp X.S.g (X.cur i):=by omega
 have rz:=Yf J.c.c.sm T;have nn:=Iq J.c.c.sm T;obtain⟨E,w,hR,hE,lE,V⟩:Bdj X.S X.gen (X.cur i):=by
  rcases J.c.hd with y|y
  ·omega
  ·exact y i u
 simp only[Aa,I,Ac];have ah:Er (.tuple []) false=false/\Er (.tuple []) true=false:=⟨rfl,rfl⟩;rw[aJ (show ¬X.cur i = -1 by omega)];simp only[Aa,Cv];rw[Ai g rfl rfl];simp only[Ef,Aa];rw[C.ic]
 try simp only[Aa]
 refine(Jq (K:=K) C.M.s C.hb rz).Am ?_;rintro _ h2 ⟨rfl,x2⟩;have c2:=C.Y8 x2;have g2:=c2.sb C.hb fq g;rw[J.c.E6];simp only[Aa,Yi,X0];refine Ok.Am (Bro A hK c2.C J g2 T (d:=e) (by omega)) ?_;rintro _ h3 ⟨sx,qx,Y,rfl,U,t3,row⟩;have c3:=c2.trans U;have g3:=c3.sb C.hb fq g;simp only[Aa,I,Ac];simp only[aB,aA];simp only[Aa,Cv,Yq,Xd];rw[Ai g3 rfl rfl];simp only[Ef,Aa];rw[c3.C.ic]
 try simp only[Aa]
 have tb:Ok (Gj K (.ptr B.m 0) h3) fun v h'=>v=Uh/\Ext h3 h':=by
  obtain⟨lt,D,p,bl,ql,np,qq,cc,G,a⟩:=c3.C.M.s;exact CF a.H2 c3.hb
 refine tb.Am ?_;rintro _ h4 ⟨rfl,x4⟩;have c4:=c3.trans (c3.C.Y8 x4);have sm:=C.sm;have aq:=sm.b0;have au:=sm.b1;have zb:X.cur i<X.S.g.D*X.S.g.Z:=by rcases Ip sm (X.cur i)with y|⟨_,_,_,_,y⟩<;>omega
 have eN:((X.S.g.parts.toNat:Nat):Int)=X.S.g.parts:=by unfold Gm.parts;omega
 have lL:(X.S.dr.dv.zs (X.cur i).toNat).l.length=X.S.g.parts.toNat:=by rw[V];unfold mM;rw[bh,rh]
 rw[lL]at row;have t:Cd h4 sx qx 30 64 X.S.g.parts.toNat (X.S.dr.dv.zs (X.cur i).toNat).l.flatten:=row.frame fun y=>x4.get _ (c3.hb _ _ (row.block y)) id
 refine(Bm3 A hK (d:=e) J.c.c.rt eN hE lE hR nn zb (by omega) V t c4.hb).Am ?_;rintro _ h5 ⟨p,rfl,x5,_⟩;have c5:=c4.trans (c4.C.Y8 x5);simp only[Aa];refine Ok.mk rfl rfl fun h6 x6 g6 n6=>?_
 have j:=c5.trans (c5.C.Y8 x6);have gs:=j.sb C.hb fq g;have ls:=j.hb _ _ gs;have l6:=j.hb _ _ g6;simp only[I,Ac];simp only[aC,Aa,Cv,As];rw[Hb (show h5.next<h6.next by omega),Ai g6 rfl (v:=I X.gen) rfl]
 try simp only[Aa,As]
 rw[Hb ls,Ai gs rfl rfl]
 try simp only[Aa,As]
 refine Ok.bE (Bbw (K:=K) j.C.lift) (fun _ _ p=>p.2) ?_;rintro _ a2 h7 ⟨rfl,_⟩ a3 x7;simp only[Aa,I,Ac];rw[aM (show X.gen=Y.gen from t3.r.nm.1.symm)];simp only[Aa,Pq];exact .ret ⟨rfl,Y,j.trans (j.C.Y8 x7),t3⟩
theorem Bsc(C:C0 h B X F)(J:Jc X L mt)(fq:F q)(g:Afo h q B.c s)(p:1<=X.gen)(c0:0<=s.cu)(c1:s.cu<X.S.g.B+3)(hd:30<=d):Ok (Ag TT disp K d false 118 [.ptr q 0] h) fun v h'=>v=.tuple [.bool true,I 0]/\∃Y,Ee h h' B X F Y/\Tk X Y L mt:=by
 obtain⟨e,rfl⟩:∃k,d=k+1:=⟨d-1,by omega⟩;have sb:=C.sm.b0;have t:=C.sm.b1;have u:Er (.tuple []) false=false/\Er (.tuple []) true=false:=⟨rfl,rfl⟩;rw[Ap7 A (by omega)];simp only[NP,Aa];rw[Ai g rfl rfl];simp only[Gr,Aa];rw[C.ji]
 try simp only[Aa]
 refine(Jz (K:=K) C.map C.hb).Am ?_;rintro _ h2 ⟨rfl,G,_⟩;have c2:=C.Y8 G;have a:=c2.sb C.hb fq g;simp only[gV,gL,Aa];rw[Ai a rfl (v:=I s.cu) rfl];simp only[I,Ac];by_cases j:X.S.g.B<=s.cu
 ·rw[aM (show s.cu≥X.S.g.B from j)]
  simp only[Aa];rw[Ai a rfl (v:=I s.cu) rfl];simp only[I,Ac];rw[Cl];obtain⟨i,M⟩:=bA (show 0<=s.cu-X.S.g.B by omega);rw[M];obtain⟨e',rfl⟩:∃k,e=k+1:=⟨e-1,by omega⟩;have ar:Ok (Ag TT disp K (e'+1) false 149 [.ptr q 0,I i] h2) fun v h'=>v=.tuple [.bool true,I 0]/\∃Y,Ee h2 h' B X F Y/\Tk X Y L mt:=by
   rw[Ao3 A (by omega)];simp only[NI,Aa];refine(Bh3 A hK c2.C J fq a p (i:=i) (by omega) (d:=e') (by omega)).Am ?_;rintro _ m ⟨rfl,w⟩;simp only[Aa,I,Ac,NH];exact .ret ⟨rfl,w⟩
  simp only[I]at ar;refine ar.Am ?_;rintro _ m ⟨rfl,Y,c3,t3⟩;simp only[Aa];exact .ret ⟨rfl,Y,c2.trans c3,t3⟩
 ·rw[aJ (show ¬s.cu≥X.S.g.B from j)]
  simp only[Aa,NO];rw[Ai a rfl (v:=I s.cu) rfl];refine(Bpc A hK c2.C J fq a (d:=e) (by omega) s.cu).Am ?_;rintro _ m ⟨rfl,Y,c3,t3⟩;simp only[Aa];exact .ret ⟨rfl,Y,c2.trans c3,t3⟩
theorem VB(C:C0 h B X F)(J:Jc X L mt)(fq:F q)(g:Afo h q B.c s)(g1:1<=X.gen)(k:Sk s X.S.g.B i)(hi:i<=200)(hd:31<=d):
 Ok (Ag TT disp K d false 83 [.ptr q 0] h) (vQ h B X F q s L mt i):=by
 obtain⟨c0,c1,de,ba,t0,t1⟩:=k;have sb:=C.sm.b0;have ae:=C.sm.b1;obtain⟨e,rfl⟩:∃k,d=k+1:=⟨d-1,by omega⟩;rw[Aq4 A (by omega)];simp only[NU];refine Ok.Am (UZ hK J.c C g) ?_;rintro _ h2 ⟨rfl,x2⟩;have c2:=C.Y8 x2;have g2:=c2.sb C.hb fq g;refine Ok.Am (Bsc A hK c2.C J fq g2 g1 c0 c1 (d:=e) (by omega)) ?_;rintro _ h3 ⟨rfl,Y,t,t3⟩;have c3:=c2.trans t;have a:=c3.sb C.hb fq g;have eg:Y.S.g=X.S.g:=t3.r.g;have u:Er (.tuple []) false=false/\Er (.tuple []) true=false:=⟨rfl,rfl⟩;simp only[Aa,I,Ac];rw[show decide ((0:Int)=34)=false from rfl];simp only[Aa,NT];rw[Ai a rfl (v:=I s.be) rfl]
 try simp only[Aa]
 rw[Ai a rfl (v:=I s.ba) rfl]
 try simp only[Aa]
 rw[Ai a rfl (v:=.bool s.de) rfl]
 try simp only[Aa]
 rw[Ai a rfl (v:=I s.cu) rfl];have G:∀be:Int,Ok (T8 (Ag TT disp K e false) (Ag TT disp K e true) K (.ptr q 0) (I 0) (.bool true) (I be) (I 0) (.bool false) h3) (vQ h B X F q s L mt i):=fun be=>by
  have fin:∀(h4:Ab) (Z:Co) (ok:Bool),Ee h h4 B X F Z->Jc Z L mt->jd X Z->ok=decide (s.cu+1=X.S.g.B+3)->Ok (Oy (Ag TT disp K e false) (Ag TT disp K e true) K (.ptr q 0) (.bool ok) (I 0) (I be) (I 0) (.bool false) h4) (vQ h B X F q s L mt i):=fun h4 Z ok c4 M U hok=>by
   have m:Z.S.g=X.S.g:=U.g;refine Ok.mono (Bdm _ _ c4.C fq (c4.sb C.hb fq g) c0 (by rw[m];exact c1) t0 (by omega) ok false 0 be 0) ?_;rintro v h' ⟨rfl,C',g',x⟩;refine⟨Z,_,?_,C',(Av.mono c4.k fun i y=>.inl y).trans (x.mono fun i y=>.inr y),g',⟨gR _ (by rw[m];omega),?_,rfl,rfl,?_,?_⟩,M,U,by rw[<-m];rfl,rfl⟩
   ·show _=EV.tuple [.bool (decide ((s.cu+1)%(Z.S.g.B+3)=0)),I 0]
    rw[m,Bmh c0 c1,hok]
   ·show(s.cu+1)%(Z.S.g.B+3)<_
    rw[m];exact Int.emod_lt_of_pos _ (by omega)
   ·show 0<=s.st+1;omega
   ·show s.st+1<=((i+1:Nat):Int);omega
  have V:∀(h4:Ab) (x:EV),Ee h h4 B X F Y->x=.bool false->Ok (Up (Ag TT disp K e false) (Ag TT disp K e true) K (.ptr q 0) (I 0) (I be) (I 0) (.bool false) x h4) (vQ h B X F q s L mt i):=fun h4 x c4 hx=>by
   subst hx;simp only[Up,Aa];refine Ok.Am (U' (K:=K) c4.C (c4.sb C.hb fq g) c0) ?_;rintro _ h5 ⟨rfl,T⟩;have p:=c4.trans (c4.C.Y8 T);rw[eg];by_cases hE:s.cu+1=X.S.g.B+3
   ·rw[aM hE]
    simp only[Aa,Ui];rw[Ai (p.sb C.hb fq g) rfl rfl];refine Ok.Am (A61 A hK p.C t3.j (d:=e) (by omega)) ?_;rintro _ h6 ⟨rfl,Z,c6,M,oz,_⟩;simp only[I,Ac];simp only[aB,aA];simp only[Aa,Ue];exact fin h6 Z true (p.trans c6) M (t3.r.Bpi oz) (aM hE).symm
   ·rw[aJ hE]
    simp only[Aa,Ui,Ue];exact fin h5 Y false p t3.j t3.r.UH (aJ hE).symm
  simp only[T8,Aa,NS,Cv];refine Ok.Am (U' (K:=K) c3.C a c0) ?_;rintro _ h4 ⟨rfl,x4⟩;have c4:=c3.trans (c3.C.Y8 x4);cases decide (s.cu+1=Y.S.g.B+3)with
  | false=>
   simp only[Aa,Ul,Ud,u,Cv];exact V _ _ c4 rfl
  | true=>
   simp only[Aa,Ul,Cv];refine Ok.Am (UZ hK t3.j.c c4.C (c4.sb C.hb fq g)) ?_;rintro _ h5 ⟨rfl,T⟩;simp only[I,Ac];simp only[aB,aA];simp only[Ud,Aa,Cv];exact V _ _ (c4.trans (c4.C.Y8 T)) rfl
 rw[de,ba];simp only[I,Ac]at G⊢;by_cases hc:s.cu=0
 ·rw[aM hc]
  simp only[Aa];rw[Ai a rfl (v:=I s.st) rfl];simp only[I,Ac];rw[Cl];exact G _
 ·rw[aJ hc]
  simp only[Aa];exact G _
end
end
structure iS where
 kind:Int
 x:Int
 y:Int
 ev:Y6
def iS.cells(o:iS):List EV:=[I o.kind,I o.x,I o.y]++o.ev.cells
theorem iS.len {o:iS}(w:o.ev.Wf):o.cells.length=71:=by
 unfold iS.cells;rw[aF,Y6.Bc w];rfl
theorem zt{v1:Nat}{o:iS}(a:h.get v1=some (.cells o.cells 78))(k:EV->R):Hq (.ptr v1 0) h k=k (I o.kind)/\Hq (.ptr v1 1) h k=k (I o.x)/\Hq (.ptr v1 2) h k=k (I o.y):=⟨Ai a rfl rfl,Ai a rfl rfl,Ai a rfl rfl⟩
theorem Bti(n:Int):Dr .u8 n=Int.ofNat (wb n):=by
 rw[Nl];unfold wb;have a:IntKind.u8.wrap n=n%256:=rfl;rw[a];show _=(((n%256).toNat:Nat):Int);omega
def VC(h:Ab)(B:Cb)(X:Co)(F:Nat->Prop)(q:Nat)(kind:Int)(i:Nat):EV->Ab->Prop:=fun v h'=>
 ∃(ok:Bool) (e:Int) (Y:Co) (a:List (List Nat)) (mt':Int->Int) (s':Sb),v=.tuple [.bool ok,I e]/\C0 h' B Y F/\Av (fun i=>¬F i\/i=q) h h'/\Afo h' q B.c s'/\Sk s' X.S.g.B (i+1)/\Jc Y a mt'/\jd X Y/\(kind=5->e=0/\ok=decide (s'.cu=0))/\(e=0\/e=13)
theorem Brb(A:Bv disp)(hK:3000000<K){s:Sb}(C:C0 h B X F)(J:Jc X L mt)(fq:F q)(g:Afo h q B.c s)(g1:1<=X.gen)(k:Sk s X.S.g.B i)(G:i<=200)(hg:X.gen+1100<=281474976710655)(V:X.nx+70000<=281474976710655)
 {o:iS} (w:o.ev.Wf) (k6:¬o.kind=6) (hd:33<=d) :
 Ok (Ag TT disp K d false 42 [.agg o.cells,.ptr B.c 0,.ptr q 0] h) (VC h B X F q o.kind i):=by
 obtain⟨e,rfl⟩:∃k,d=k+1:=⟨d-1,by omega⟩;rw[Ajl A (by omega)];simp only[NN,Aa];have ol:=iS.len w;obtain⟨h1,e_,x1,t,n1⟩:=nW h (.cells o.cells 78);rw[e_];have a:=C.Y8 x1;have gq:=a.sb C.hb fq g;have e0:∀k:EV->R,Hq (.ptr h.next 0) h1 k=k (I o.kind):=fun k=>(zt t k).1
 have e1:∀k:EV->R,Hq (.ptr h.next 1) h1 k=k (I o.x):=fun k=>(zt t k).2.1
 have e2:∀k:EV->R,Hq (.ptr h.next 2) h1 k=k (I o.y):=fun k=>(zt t k).2.2
 have k':Sk s X.S.g.B (i+1):=⟨k.c0,k.c1,k.de,k.ba,k.t0,by have:=k.t1;omega⟩;have still:∀{h':Ab} {Y:Co} {M:List (List Nat)} {mt':Int->Int} {m:Int},¬o.kind=5->Ee h h' B X F Y->Jc Y M mt'->jd X Y->(m=0\/m=13)->VC h B X F q o.kind i (.tuple [.bool false,I m]) h':=fun {h' Y M mt' m} nk c j op he=>
  ⟨false,m,Y,M,mt',s,rfl,c.C,Av.mono c.k fun i y=>.inl y,c.sb C.hb fq g,k',j,op,fun y=>absurd y nk,he⟩
 rw[e0];simp only[I,Ac];by_cases k1:o.kind=1
 ·rw[aM k1]
  simp only[Aa,As];have lt:h.next<h1.next:=by omega
  rw[Hb lt,e1]
  try simp only[Aa,As]
  rw[Hb lt,e2];simp only[Aa,As,I,FF];rw[Bti];refine Ok.bE (Bmp (K:=K) (by omega) (wb o.y) a.C.lift.hb) (fun _ _ p=>p.2.1) ?_;rintro _ a4 h2 ⟨rfl,xf,a5⟩ sm x2;have q2:=a.trans (a.C.Y8 x2);have wf:(⟨o.x,List.replicate 32 (wb o.y)⟩:Wr).Wf:=⟨bV,fun b hb=>by rw[bO hb];exact Bta _⟩;rw[show EV.int .i64 o.x=I o.x from rfl,Ax (Br7 _ (by simp))];generalize (⟨o.x,List.replicate 32 (wb o.y)⟩:Wr)=W at wf⊢;simp only[Aa,As];rw[Wb (v:=.agg W.cells) rfl (by simp) (Wr.len wf),Au];have a6:=q2.hb;obtain⟨T,e_,x3,g3,n3⟩:=nW h2 (.cells (EV.cells (.agg W.cells)) 84);rw[e_];have q3:=q2.trans (q2.C.Y8 x3);have C3:C0 T.lift B X (fun i=>F i\/i=h2.next):=by
   refine((q2.C.ext x3).less fun i G=>?_).lift;rcases G with G|rfl
   ·exact .inl G
   ·exact .inr ⟨by omega,by omega⟩
  have WA:jS T.lift (.slice h2.next 0 1 1 false) h2.next [W]:=by
   refine⟨.inr ⟨0,1,false,rfl,fun j hj k=>?_⟩,fun x V=>by rw[aP.1 V];exact wf⟩;have:j=0:=by simpa using hj
   subst this;have ag:T.lift.get h2.next=some (.cells W.cells 84):=by rw[Bx];exact g3
   exact Cn ag rfl (Aj (Wr.len wf))
  refine Ok.bC (S:=fun j=>¬(F j\/j=h2.next)) (A5n A hK (F:=fun i=>F i\/i=h2.next) (fun _=>.inr rfl) (by simp) (d:=e) (by omega) C3 J hg V WA) (fun _ _ p=>by obtain⟨_,_,_,_,_,c,_⟩:=p;exact c.k) ?_;rintro _ bf h4 s' ⟨m,Y,M,mt',rfl,c4,j4,o4,w4⟩ ah ai bp;have c5:Ee T h4 B X F Y:=⟨(c4.C.same ah).less fun _=>.inl,Kf.less (F:=fun j=>F j\/j=h2.next) ai fun _=>.inl,c4.ck⟩;exact .ret (still (by omega) (q3.trans c5) j4 o4 (w4.elim (fun y=>.inr y.2.1) fun y=>.inl y.2.1))
 simp only[k1,aA,Aa];by_cases k2:o.kind=2
 ·rw[aM k2]
  simp only[Aa];rw[e1];refine Ok.Am (Bar A (by omega) a.C J hg V (d:=e) (by omega) _ 1) ?_;rintro _ h2 ⟨m,Y,M,mt',rfl,c2,u,U,w2⟩;exact .ret (still (by omega) (a.trans c2) u U (w2.elim (fun y=>.inr y.2.1) fun y=>.inl y.2.1))
 rw[aJ k2];simp only[Aa];by_cases k3:o.kind=3
 ·rw[aM k3]
  simp only[Aa];rw[e1];refine Ok.Am (A9l A (by omega) a.C J (d:=e) (by omega) _) ?_;rintro _ h2 ⟨bl,m,Y,rfl,aj,c2,u,r2,w2⟩;simp only[Aa];refine Ok.mk (by simp) (by rw[Bg,aj]) fun T x3 _ _=>?_
  have c2:=a.trans c2;exact .ret (still (by omega) (c2.trans (c2.C.Y8 x3)) u r2.UH (w2.elim (fun y=>.inl y.2.2.1) fun y=>.inr y.2.1))
 rw[aJ k3];simp only[Aa];by_cases k4:o.kind=4
 ·rw[aM k4]
  simp only[Aa];refine Ok.Am (vN A (by omega) a.C J.c (by omega) (by omega) (d:=e)) ?_;rintro _ h2 ⟨rfl,Y,c2,cy,ky⟩;obtain⟨u,U⟩:=J.UL cy ky;exact .ret (still (by omega) (a.trans c2) u U (.inl rfl))
 rw[aJ k4];simp only[Aa];by_cases k5:o.kind=5
 ·rw[aM k5]
  simp only[Aa];refine Ok.Am (VB A (by omega) a.C J fq gq g1 k G (d:=e) (by omega)) ?_;rintro _ h2 ⟨Y,s',rfl,C2,x2,g2,ao,u,U,_⟩;simp only[Aa];exact .ret ⟨_,0,Y,L,mt,s',rfl,C2,(Av.mono a.k fun i y=>.inl y).trans x2,g2,ao,u,U,fun _=>⟨rfl,rfl⟩,.inl rfl⟩
 rw[aJ k5,aJ k6];simp only[Aa,Wk,dr];exact .ret (still k5 a J (jd.refl X) (.inl rfl))
variable {o:iS}{O:List iS}
theorem A60(A:Bv disp)(hK:10000<K)(hd:8<=d)(hn:n<=600){ar m:Nat}(fa:F ar){S0:Mi}(b0:∀z,S0.bad z=0):∀(f i:Nat) (h:Ab),n-i<f->i<=n->Db h m (S0.jH cur Br i) F->HB h->h.get ar=some (.cells (arC m cur Br) 152)->Kf F h0 h ->
 (∀h',Db h' m (S0.jH cur Br n) F->Kf F h0 h'->HB h'->Ok (Gf (Ag TT disp K d false) (Ag TT disp K d true) K (.ptr m 0) (.ptr b 0) (.ptr ar 0) h') Q) ->
 Ok (Ed (Ag TT disp K d false) (Ag TT disp K d true) K f (.ptr m 0) (.ptr b 0) (.ptr ar 0) (I n) (I i) h) Q:=by
 intro f;induction f with
 | zero=>intro i h hf;omega
 | succ f ih=>
  intro i h hf hi M hb T k U;rw[Ed];simp only[I,Ac];by_cases ag:i<n
  ·have:decide ((i:Int)<(n:Int))=true:=by simp;omega
   simp only[this,Aa,T3];have V:=DN (K:=K) A (d:=d) (by omega) (by omega) T hb (i:Int);simp only[I]at V;refine V.Am ?_;rintro _ h2 ⟨rfl,G,e⟩;have M2:=(M.ext hb G).less fun j (hj:F j)=>Or.inl hj
   have u:=G.at hb T;have k2:=k.trans (Ext.kf G);have nx:∀a,Db a m (S0.jH cur Br (i+1)) F->HB a->a.get ar=some (.cells (arC m cur Br) 152)->Kf F h0 a->Ok (Mx (Ag TT disp K d false) (Ag TT disp K d true) K (Ed (Ag TT disp K d false) (Ag TT disp K d true) K f) (.ptr m 0) (.ptr b 0) (.ptr ar 0) (.int .i64 (n:Int)) (.int .i64 (i:Int)) a) Q:=fun a J t S C=>by
    simp only[Mx,Ac];rw[Cl,show((i:Nat):Int)+1=((i+1:Nat):Int) by omega];exact ih (i+1) a (by omega) (by omega) J t S C U
   have e1:S0.jH cur Br (i+1)=if Wy cur Br i=true then S0.jH cur Br i else(S0.jH cur Br i).iJ i:=rfl
   cases hh:Wy cur Br i with
   | true=>
    simp only[Aa];exact nx h2 (by rw[e1,aI hh];exact M2) e u k2
   | false=>
    simp only[Aa];obtain⟨p,e2,e3⟩:=TL M2 e A hK;rw[e2,Au];refine Ok.Am (e3 hd (z:=(i:Int)) ⟨by omega,by omega⟩ fun _=>by rw[(pT cur Br S0 i).1,b0];decide) ?_;rintro _ a ⟨rfl,J,C,t⟩;exact nx a (by rw[e1,aG (by rw[hh];decide)];exact J) t (C.at e u fa) (k2.trans C)
  ·have:decide ((i:Int)<(n:Int))=false:=by simp;omega
   simp only[this,Aa];have:i=n:=by omega
   subst this;exact U h M k hb
theorem A3p(A:Bv disp)(hK:10000<K)(hd:8<=d)(hr:rtB g=true)(hb:HB h){v1 m ll L:Nat}(g1:h.get v1=some (.cells (gL g) 23))(mp:Ob h b ml ll g (List.replicate g.B.toNat (Me.nil 0)))(lb:L<=b/\L<=ml/\L<=ll)(M:Db h m (Mi.new g) (fun i=>i<L\/i=b\/i=ml\/i=ll))(lv:v1<L)
 (hk:∀h' ar,L<=ar->Db h' m (Co.start g).S (fun i=>i<L\/i=b\/i=ml\/i=ll\/i=ar)->h'.get ar=some (.cells (arC m (Ff g) (Fh g)) 152)->Ob h' b ml ll g (List.replicate g.B.toNat (Me.nil 0))->Kf (fun i=>i<L) h h'->HB h'->Ok (Gf (Ag TT disp K d false) (Ag TT disp K d true) K (.ptr m 0) (.ptr b 0) (.ptr ar 0) h') Q) :
 Ok (Mg (Ag TT disp K d false) (Ag TT disp K d true) K (.ptr v1 0) (.ptr m 0) (.ptr b 0) h) Q:=by
 have s:=Ja hr;have zz:=xn hr;have:=s.d0;have:=s.d1;have:=s.z0;have:=s.z1;have:=s.p0;obtain⟨m0,m1⟩:=Q6 (a:=g.D) (b:=g.Z) (A:=8) (B:=64);simp only[Mg,dr];refine(Τ (K:=K) (by omega) hb m).Am ?_;rintro _ h2 ⟨rfl,ga,x2,t⟩;have la:=t _ _ ga;have lm:h.next<=h.next:=aE _
 have l1:=hb _ _ g1;have l3:=hb _ _ mp.map;have l4:=hb _ _ mp.row;have l5:=hb _ _ mp.live;have M2:Db h2 m (Mi.new g) (fun i=>i<L\/i=b\/i=ml\/i=ll\/i=h.next):=(M.ext hb x2).less fun i p=>by
  rcases p with p|p|p|p|p
  ·exact .inl (.inl p)
  ·exact .inl (.inr (.inl p))
  ·exact .inl (.inr (.inr (.inl p)))
  ·exact .inl (.inr (.inr (.inr p)))
  ·exact .inr ⟨by omega,by omega⟩
 have hL:L<=h.next:=by omega
 have ab:=x2.at hb g1;generalize h.next=ar at *
 have fa:(fun i=>i<L\/i=b\/i=ml\/i=ll\/i=ar) ar:=.inr (.inr (.inr (.inr rfl)));have st:∀(i:Nat) (u:Ab) (c o:Nat->Int) (n:Nat),i<3->Db u m (Mi.new g) (fun i=>i<L\/i=b\/i=ml\/i=ll\/i=ar)->HB u->u.get ar=some (.cells (arC m c o) 152)->Av (fun j=>j=ar) h2 u ->
  (∀h4,Db h4 m (Mi.new g) (fun i=>i<L\/i=b\/i=ml\/i=ll\/i=ar)->HB h4->h4.get ar=some (.cells (arC m (Lu c i (i*g.Z)) (Lu o i (i*g.Z+1))) 152)->Av (fun j=>j=ar) h2 h4->Ok (Dj (Ag TT disp K d false) (Ag TT disp K d true) K n (.ptr v1 0) (.ptr m 0) (.ptr b 0) (.ptr ar 0) (I (i+1:Nat)) h4) Q) ->
  Ok (Dj (Ag TT disp K d false) (Ag TT disp K d true) K (n+1) (.ptr v1 0) (.ptr m 0) (.ptr b 0) (.ptr ar 0) (I i) u) Q:=by
  intro i u c o n p M3 G J c3 hk;rw[Dj];simp only[I,Ac];have:decide ((i:Int)<3)=true:=by simp;omega
  simp only[this,Aa,Ty];have ai:=c3.at t ab (by show ¬v1=ar;omega);have ld:∀k:EV->R,Hq (.ptr v1 1) u k=k (I g.Z):=fun k=>Ai ai rfl rfl
  obtain⟨a0,a1⟩:=Q6 (a:=(i:Int)) (b:=g.Z) (A:=3) (B:=64);simp only[ld,I,Ac];rw[Cl,Cl];have d1:=Rn s (i:=i) (k:=0);have d2:=Rn s (i:=i) (k:=1);rw[Int.add_zero]at d1;have so:=ZR (K:=K) M3 G J fa p (v:=i*g.Z) (w:=i*g.Z+1) (.inr d1) (.inr d2) (by omega);simp only[I]at so;refine so.Am ?_;rintro _ h4 ⟨rfl,M4,T,c4,U⟩;simp only[T4,Ac];rw[Cl,show((i:Nat):Int)+1=((i+1:Nat):Int) by omega];exact hk h4 M4 U T (c3.trans c4)
 obtain⟨K',rfl⟩:∃k,K=k+4:=⟨K-4,by omega⟩;refine st 0 h2 _ _ _ (by omega) M2 t ga (Av.refl _) fun u M3 G J c3=>st 1 u _ _ _ (by omega) M3 G J c3 fun h4 M4 U T c4=>st 2 h4 _ _ _ (by omega) M4 U T c4 fun h5 M5 C V c5=>?_
 rw[Dj];simp only[I,Ac];simp only[show decide (((2+1:Nat):Int)<3)=false from rfl,Aa,My];have al:=c5.at t ab (by show ¬v1=ar;omega);rw[Cy al rfl,Aj (n:=6) rfl]
 try simp only[Aa]
 rw[show EV.agg (gL g)=gV g from rfl,Nj s,Au];obtain⟨n,hn⟩:=bA (show 0<=g.D*g.Z by omega);rw[hn];obtain⟨h6,e_,x6,_,_⟩:=nW h5 (.cells (gL g) 23);rw[e_];have aa:=x6.hb C;have cc:Lu (Lu (Lu (fun _=>-1) 0 ((0:Nat)*g.Z)) 1 ((1:Nat)*g.Z)) 2 ((2:Nat)*g.Z)=Ff g:=by
  unfold Ff;rw[show(((0:Nat):Int))*g.Z=0 from Int.zero_mul _,show(((1:Nat):Int))*g.Z=g.Z from Int.one_mul _];rfl
 have co:Lu (Lu (Lu (fun _=>-1) 0 ((0:Nat)*g.Z+1)) 1 ((1:Nat)*g.Z+1)) 2 ((2:Nat)*g.Z+1)=Fh g:=by
  unfold Fh;rw[show(((0:Nat):Int))*g.Z=0 from Int.zero_mul _,show(((1:Nat):Int))*g.Z=g.Z from Int.one_mul _];rfl
 rw[cc,co]at V;have M6:=(M5.ext C x6).less (F':=fun i=>i<L\/i=b\/i=ml\/i=ll\/i=ar) fun j hj=>Or.inl hj
 refine A60 (S0:=Mi.new g) (cur:=Ff g) (Br:=Fh g) (h0:=h6) A hK hd (n:=n) (by omega) fa (fun _=>rfl) (K'+4) 0 h6 (by omega) (by omega) M6 aa (x6.at C V) (Av.refl _) fun h7 M7 k7 aw=>?_
 have ca:Av (fun j=>j=ar) h2 h6:=c5.trans (Ext.to x6);have kp:∀i o,i<ar->(i<L\/i=b\/i=ml\/i=ll)->h.get i=some o->h7.get i=some o:=fun i o p hf e=>k7.at aa (ca.at t (x2.at hb e) (by show ¬i=ar;omega)) (by
  rcases hf with y|y|y|y
  ·exact .inl y
  ·exact .inr (.inl y)
  ·exact .inr (.inr (.inl y))
  ·exact .inr (.inr (.inr (.inl y))))
 refine hk h7 ar hL ?_ (k7.at aa (x6.at C V) fa) ⟨kp _ _ l3 (.inr (.inl rfl)) mp.map,kp _ _ l4 (.inr (.inr (.inl rfl))) mp.row,kp _ _ l5 (.inr (.inr (.inr rfl))) mp.live,mp.len,mp.ok⟩ ?_ aw
 ·show Db h7 m ((Mi.new g).jH (Ff g) (Fh g) (g.D*g.Z).toNat) _
  rw[hn];exact M7
 ·refine(Ext.kf x2).trans ((ca.mono fun i p y=>?_).trans (k7.less fun i p=>.inl p))
  have y:i<L:=y;have p:i=ar:=p;omega
theorem VD(A:Bv disp)(hK:10000<K)(hd:22<=d)(g:Gm)(hb:HB h):Ok (Ag TT disp K d false 40 [gV g] h) fun v h'=>Kf (fun i=>i<h.next) h h'/\HB h'/\if rtB g=true/\g.D*g.Z<=64 then ∃B Y,v=.ptr B.c 0/\C0 h' B Y (fun i=>i<h.next)/\h.next<=B.c/\Jc Y (pC g) (fun _=>-1)/\jd (Co.start g) Y/\Y.gen=1 else v=.Ch:=by
 obtain⟨e,rfl⟩:∃k,d=k+1:=⟨d-1,by omega⟩;rw[Af6 A (by omega)];simp only[W8,gV,Aa];obtain⟨h1,e_,x1,g1,n1⟩:=nW h (.cells (gL g) 23);rw[e_];have al:=x1.hb hb;rw[Cy g1 rfl,Aj (n:=6) rfl]
 try simp only[Aa]
 rw[show EV.agg (gL g)=gV g from rfl];refine(Big g (by omega) h1).Am ?_;rintro _ h3 ⟨rfl,x3⟩;have u:=x3.hb al;have ae:Ext h h3:=x1.trans x3;have b8:Er (.tuple []) false=false/\Er (.tuple []) true=false:=⟨rfl,rfl⟩;cases hr:rtB g with
 | false=>
  simp only[Aa,Ac,H9];exact .ret ⟨Ext.kf ae,u,by rw[aG (fun y=>by cases y.1)]⟩
 | true=>
 have s:=Ja hr;have:=s.d0;have:=s.d1;have:=s.z0;have:=s.z1;have:=s.s0;have:=s.s1;have:=s.o0;have:=s.o1;obtain⟨m0,m1⟩:=Q6 (a:=g.D) (b:=g.Z) (A:=8) (B:=64);have m2:3<=g.D*g.Z:=by
  have:3*1<=g.D*g.Z:=Int.mul_le_mul (by omega) (by omega) (by omega) (by omega);omega
 have U:=x3.at al g1;simp only[Aa,Ac,Cw U rfl,gL,I];rw[Cl];by_cases ao:64<g.D*g.Z
 ·simp only[ao,aC,Aa,Ac,H9]
  exact .ret ⟨Ext.kf ae,u,by rw[aG (fun y=>by omega)]⟩
 simp only[ao,aA,Aa,Ac,H9,Sn,As];have l3:=u _ _ U;rw[Hb l3,Cy U rfl,Aj (n:=6) rfl]
 try simp only[Aa,As]
 rw[show EV.agg (gL g)=gV g from rfl];refine Ok.bE (P:=fun v h'=>v=I (g.D*g.Z)/\Ext h3.lift h') ⟨_,_,Nj s _,rfl,Av.new _ _⟩ (fun _ _ p=>p.2) ?_;rintro _ _ h4 ⟨rfl,_⟩ _ x4;have af:=x4.hb u;have ag:=x4.at u U;rw[Hb l3,Ai ag rfl (v:=I g.S) rfl]
 try simp only[Aa,As]
 rw[Hb l3,Ai ag rfl (v:=I g.O) rfl]
 try simp only[Aa,As]
 have a4:ti (g.D*g.Z) g.S g.O=true:=by
  unfold ti;rw[Ez.2 ⟨by omega,by omega⟩,Ez.2 ⟨by omega,by omega⟩,Ez.2 ⟨by omega,by omega⟩];rfl
 refine Ok.bE (A7r (K:=K) a4 (by omega) (C8 af)) (fun _ _ p=>by obtain⟨_,_,_,_,_,_,x,_⟩:=p;exact x) ?_;rintro _ ca h5 ⟨D,V,M,a5,z,rfl,_,_,dr,nd⟩ sm x5;have G:=x5.hb af;have dr:=dr.ext (h':=h5) fun i o g=>by rw[sm.get];exact g
 have ah:=x5.at af ag;have cc:h4.lift.next=h4.next:=rfl
 simp only[Aa,I,Ac,aB,aA,Sz,As];have l5:=G _ _ ah;rw[Hb l5,Cy ah rfl,Aj (n:=6) rfl]
 try simp only[Aa,As]
 rw[VE (v:=Uh) (by kernel_rfl) (by kernel_rfl) rfl];have a6:oe h5.lift D V M a5 (g.D*g.Z).toNat z (fun _=>0) g.S g.O 0 false .Aq .Aq [] (fun _=>Zn.empty):=dr.ext fun i o g=>by rw[Bx];exact g
 rw[show EV.agg (gL g)=gV g from rfl];refine Ok.bE (A30 (K:=K) (g:=g) (by omega) (C8 G) a6) (fun _ _ p=>p.1) ?_;rintro v a7 h6 ⟨_,_,hv⟩ a8 x6;have aa:=x6.hb G;rw[aI ⟨hr,by omega,rfl⟩]at hv;obtain⟨m,p,bl,ql,q,c,rfl,MA,PA,nm⟩:=hv;have k6:∀i o,a7.get i=some o->h6.get i=some o:=fun i o g=>by rw[a8.get];exact g
 have t1:=x1.next;have t3:=x3.next;have t4:=x4.next;have t5:=x5.next;have t6:=x6.next
 have cw:h5.lift.next=h5.next:=rfl
 have M6:=Bou s (h0:=h4) aa (dr.ext fun i o g=>x6.at G g) ⟨⟨by omega,by omega⟩,by omega,by omega,nd.2.2.2⟩ (MA.ext k6) (PA.ext k6) ⟨⟨by omega,by omega⟩,by omega,by omega,fun d hd=>by have:=nm.2.2.2 d hd;omega⟩ (by omega);have au:=x6.at G ah;simp only[Aa,I,Ac];rw[Cy au rfl,Aj (n:=6) rfl]
 try simp only[Aa]
 rw[show EV.agg (gL g)=gV g from rfl];refine(EW (K:=K) hr aa).Am ?_;rintro _ h7 ⟨b,ml,ll,rfl,mp,x7,ab,lb,cz,cA⟩;simp only[Aa,I,Ac,aB,aA,Sj];have cB:=ab _ _ mp.map;have cG:=ab _ _ mp.row;have cT:=ab _ _ mp.live;have M7:Db h7 m (Mi.new g) (fun i=>i<h4.next\/i=b\/i=ml\/i=ll):=(M6.ext aa x7).less fun i j=>by
  rcases j with j|j|j|j
  ·exact .inl j
  ·exact .inr ⟨by omega,by omega⟩
  ·exact .inr ⟨by omega,by omega⟩
  ·exact .inr ⟨by omega,by omega⟩
 have bb:Ext h h7:=(((ae.trans x4).trans x5).trans x6).trans x7;refine A3p (K:=K) A hK (d:=e) (by omega) hr ab (v1:=h.next) (L:=h4.next) (x7.at aa au) mp ⟨by omega,by omega,by omega⟩ M7 (by omega) fun T ar c6 M8 aw ad k8 t=>?_
 simp only[Gf,dr];rw[Ax (l:=[I 0,I 1,I 1]) rfl]
 try simp only[Aa]
 rw[Ψ,Au];have x9:Ext T ((T.new (.cells [I 0,I 1,I 1] 69)).new (.cells [.ptr m 0,.ptr ar 0,.ptr b 0,I 0,I 1,I 1,.bool false] 109)):=(Av.new _ _).Da _;have g9:((T.new (.cells [I 0,I 1,I 1] 69)).new (.cells [.ptr m 0,.ptr ar 0,.ptr b 0,I 0,I 1,I 1,.bool false] 109)).get (T.next+1)=some (.cells [.ptr m 0,.ptr ar 0,.ptr b 0,I 0,I 1,I 1,.bool false] 109):=Ad _ _;generalize (T.new (.cells [I 0,I 1,I 1] 69)).new (.cells [.ptr m 0,.ptr ar 0,.ptr b 0,I 0,I 1,I 1,.bool false] 109)=h9 at x9 g9⊢;have ax:=x9.hb t;have l9:=ax _ _ g9;have e2:(Co.start g).S.g=g:=(pT (Ff g) (Fh g) (Mi.new g) (g.D*g.Z).toNat).2.1;have c8:=t _ _ aw;have c9:=t _ _ ad.map;have da:=t _ _ ad.row;have db:=t _ _ ad.live;have t8:=k8.next
 have M9:=M8.ext t x9;have bn:Kf (fun i=>i<h.next) h h9:=(Ext.kf bb).trans ((k8.trans (Ext.kf x9)).mono fun i j y=>j (by have y:i<h.next:=y;show i<h4.next;omega));have C9:C0 h9 ⟨T.next+1,ar,m,b,ml,ll⟩ (Co.start g) (fun i=>i<h.next):=by
  refine⟨M9.less fun i j=>?_,g9,x9.at t aw,?_,Co.Ω hr,fun i j y=>?_,ax⟩
  ·rcases j with j|j|j|j|j|j
   ·exact .inl (.inl (show i<h4.next by have j:i<h.next:=j;omega))
   ·exact .inr ⟨by have j:i=T.next+1:=j;omega,by have j:i=T.next+1:=j;omega⟩
   ·exact .inl (.inr (.inr (.inr (.inr j))))
   ·exact .inl (.inr (.inl j))
   ·exact .inl (.inr (.inr (.inl j)))
   ·exact .inl (.inr (.inr (.inr (.inl j))))
  ·show Ob h9 b ml ll (Co.start g).S.g _
   rw[e2];exact ad.ext fun i o g=>x9.at t g
  ·have j:i<h.next:=j
   rcases y with y|y|y|y|y
   ·have y:i=T.next+1:=y;omega
   ·have y:i=ar:=y;omega
   ·have y:i=b:=y;omega
   ·have y:i=ml:=y;omega
   ·have y:i=ll:=y;omega
 have J:=Blq hr
 try simp only[Aa]
 refine Ok.Am (vN A hK C9 J.c (by show(0:Int)<_;decide) (by show(1:Int)<=_;decide) (d:=e)) ?_;rintro _ di ⟨rfl,Y,ai,cy,ky⟩;obtain⟨jy,oy⟩:=J.UL cy ky;simp only[I,Ac,aB,aA,Aa,T6];refine .ret ⟨bn.trans ai.k,ai.hb,?_⟩;rw[aI ⟨trivial,by omega⟩];exact⟨⟨T.next+1,ar,m,b,ml,ll⟩,Y,rfl,ai.C,by show h.next<=T.next+1;omega,jy,oy,ky.nm.1⟩
theorem VF(S:Nat)(k:EV->R):J5 iW (bin TT .eql 26) (.ptr S 0) .Ch k=k (.bool false):=by kernel_rfl
def An(q:Nat)(B:Cb)(F:Nat->Prop)(i:Nat)(h0 h:Ab):Prop:=∃(X:Co) (s:Sb),C0 h B X F/\Jc X (pC ⟨3,8,8,1,0,4⟩) (fun _=>-1)/\Afo h q B.c s/\Sk s X.S.g.B i/\s.cu=i%4/\s.st=i/\X.S.g.B=1/\1<=X.gen/\Av (fun i=>¬F i\/i=q) h0 h
theorem VG(A:Bv disp)(hK:10000<K)(hd:31<=d)(fq:F q)(M:i<4)(p:An q B F i h0 h):Ok (Ag TT disp K d false 83 [.ptr q 0] h) fun v h'=>v=.tuple [.bool (decide (i=3)),I 0]/\An q B F (i+1) h0 h':=by
 obtain⟨X,s,C,J,g,k,cu,st,e,ge,j⟩:=p;refine(VB A hK C J fq g ge k (by omega) hd).mono ?_;rintro _ h' ⟨Y,s',rfl,m,x,t,u,G,o,a,st'⟩;rw[e,cu]at a;have gg:=o.g;refine⟨by rw[show decide (s'.cu=0)=decide (i=3)from eO.2 (by omega)],Y,s',m,G,t,by rw[gg];exact u,by omega,by omega,by rw[gg];exact e,by have:=o.gen;omega,j.trans x⟩
theorem Bd9(A:Bv disp)(hK:10000<K)(hd:33<=d)(hb:HB h):Ok (Ag TT disp K d false 39 [] h) fun v h'=>v=.bool true/\Kf (fun i=>i<h.next) h h'/\HB h':=by
 obtain⟨e,rfl⟩:∃k,d=k+1:=⟨d-1,by omega⟩;rw[Ahe A (by omega)];simp only[Z1,Aa];rw[Ax (l:=gL ⟨3,8,8,1,0,4⟩) rfl]
 try simp only[Aa]
 refine(VD (K:=K) A hK (d:=e) (by omega) ⟨3,8,8,1,0,4⟩ hb).Am ?_;rintro v h2 ⟨J,V,M⟩;rw[aI ⟨by kernel_rfl,by decide⟩]at M;obtain⟨B,Y,rfl,C2,lB,jY,oY,gY⟩:=M;rw[VF];simp only[Aa,U6,sj];rw[Ax (l:=(⟨0,false,0,0,0,0,0⟩:Sb).cells B.c) rfl];simp only[Aa];have t:Ext h2 (h2.new (.cells ((⟨0,false,0,0,0,0,0⟩:Sb).cells B.c) 135)):=Av.new _ _;have T:Afo (h2.new (.cells ((⟨0,false,0,0,0,0,0⟩:Sb).cells B.c) 135)) h2.next B.c ⟨0,false,0,0,0,0,0⟩:=Ad _ _
 have t2:=J.next
 have hq:h.next<=h2.next:=t2
 have U:C0 (h2.new (.cells ((⟨0,false,0,0,0,0,0⟩:Sb).cells B.c) 135)) B Y (fun i=>i<h.next\/i=h2.next):=(C2.ext t).less fun i a=>by
  rcases a with a|rfl
  ·exact .inl a
  ·exact .inr ⟨aE _,aO _⟩
 generalize h2.new (.cells ((⟨0,false,0,0,0,0,0⟩:Sb).cells B.c) 135)=m at t T U⊢;generalize h2.next=q at *
 have fq:(fun i=>i<h.next\/i=q) q:=.inr rfl;have gg:Y.S.g.B=1:=by rw[oY.g,show(Co.start ⟨3,8,8,1,0,4⟩).S.g=_ from(pT (Ff ⟨3,8,8,1,0,4⟩) (Fh ⟨3,8,8,1,0,4⟩) (Mi.new ⟨3,8,8,1,0,4⟩) _).2.1];rfl
 have p0:An q B (fun i=>i<h.next\/i=q) 0 m m:=⟨Y,_,U,jY,T,⟨cO _,by rw[gg];decide,rfl,rfl,cO _,cO _⟩,rfl,rfl,gg,by omega,Av.refl _⟩;have ae:Er (.tuple []) false=false/\Er (.tuple []) true=false:=⟨rfl,rfl⟩;have st:∀(i n:Nat) (h4:Ab),i<3->An q B (fun i=>i<h.next\/i=q) i m h4->(∀j,An q B (fun i=>i<h.next\/i=q) (i+1) m j->Ok (El (Ag TT disp K e false) (Ag TT disp K e true) K n (.ptr q 0) (I (i+1:Nat)) j) fun v h'=>v=.bool true/\Kf (fun i=>i<h.next) h h'/\HB h')->Ok (El (Ag TT disp K e false) (Ag TT disp K e true) K (n+1) (.ptr q 0) (I i) h4) fun v h'=>v=.bool true/\Kf (fun i=>i<h.next) h h'/\HB h':=fun i n h4 a p hk=>by
  rw[El];simp only[I,Ac];rw[aM (show(i:Int)<3 by omega)];simp only[Aa,Uw];refine(VG A hK (d:=e) (by omega) fq (by omega) p).Am ?_;rintro _ j ⟨rfl,u⟩;rw[aJ (show ¬i=3 by omega)];simp only[Aa,Cv,I,Ac];simp only[aB,aA];simp only[U3,Uy,Aa,Ac];rw[Cl,show((i:Nat):Int)+1=((i+1:Nat):Int) by omega];exact hk j u
 obtain⟨G,rfl⟩:∃k,K=k+4:=⟨K-4,by omega⟩;refine st 0 (G+3) m (by omega) p0 fun h4 p4=>st 1 (G+2) h4 (by omega) p4 fun j u=>st 2 (G+1) j (by omega) u fun h6 p6=>?_
 rw[El];simp only[I,Ac];rw[show decide (((2+1:Nat):Int)<3)=false from rfl];simp only[Aa,U0];refine(VG A hK (d:=e) (by omega) fq (i:=3) (by omega) p6).Am ?_;rintro _ h7 ⟨rfl,X,s,C,_,g,_,_,s4,_,_,ch⟩;simp only[Aa,Cv,I,Ac];simp only[aC,U4,Aa,Cv,Yj];rw[Ai g rfl (v:=I s.st) rfl,s4];simp only[I,Ac];refine .ret ⟨rfl,(J.trans (Ext.kf t)).trans (ch.mono fun i a y=>?_),C.hb⟩;rcases a with a|rfl
 ·exact a (.inl y)
 ·have y:i<h.next:=y
  omega
theorem A4x(k:EV->R):J5 iW (bin TT .eql 26) .Ch .Ch k=k (.bool true):=by kernel_rfl
theorem Buh(a b:Bool)(k:EV->R):J5 iX (bin TT .neq 4) (.bool a) (.bool b) k=k (.bool (a != b)):=by
 cases a<;>cases b<;>kernel_rfl
structure ku(h:Ab)(v:EV)(b:Nat)(L:List iS):Prop where
 row:(L = []/\lenOf v=some 0)\/∃off r op,v=.slice b off L.length r op/\∀j (hj:j<L.length) (k:EV->R),Pg 71 (.ptr b (off+j*71)) h k=k (.agg L[j].cells)
 wf:∀o∈L,o.ev.Wf
theorem ku.frame{L:List iS}(r:ku h v b L)(e:0<L.length->h'.get b=h.get b):ku h' v b L:=by
 refine⟨?_,r.wf⟩;rcases r.row with y|⟨off,a,op,rfl,y⟩
 ·exact .inl y
 ·refine .inr ⟨off,a,op,rfl,fun j hj k=>?_⟩
  have:=y j hj k;show oB _ (mj (h'.get b) _ 71)=_;rw[e (by omega)];exact this
theorem ku.Hg{L:List iS}(r:ku h v b L)(k:EV->R):Ev.Hg v k=k (I L.length):=by
 rcases r.row with⟨rfl,y⟩|⟨off,a,op,rfl,_⟩
 ·unfold Ev.Hg;rw[y];rfl
 ·rfl
theorem ku.at{L:List iS}(r:ku h v b L){j:Nat}(hj:j<L.length)(k:EV->R):ir 71 v (.int .i64 (j:Int)) (fun p=>Pg 71 p h k)=k (.agg L[j].cells):=by
 rcases r.row with⟨rfl,_⟩|⟨off,a,op,rfl,y⟩
 ·exact absurd hj (cI _)
 ·rw[Mw hj];exact y j hj k
structure Lp(g:Gm)(h0 h:Ab)(N:Nat)(B:Cb)(X:Co)(F:Nat->Prop)(q:Nat)(s:Sb)(L:List (List Nat))(mt:Int->Int)(i:Nat):Prop where
 C:C0 h B X F
 fq:F q
 nq:N<=q
 lN:∀j,j<N->F j
 gq:Afo h q B.c s
 k:Sk s X.S.g.B i
 j:Jc X L mt
 gg:X.S.g=g
 gen:1<=X.gen/\X.gen<=1100*(i+1)
 nx:X.nx<=1+70000*(i+1)
 same:∀j,j<N->h.get j=h0.get j
theorem Bgi(A:Bv disp)(hK:3000000<K)(hd:33<=d)(hL:O.length<=120){N:Nat}(lo:0<O.length->bo<N)(R0:ku h0 vo bo O):
 ∀(f i:Nat) (h:Ab) (X:Co) (s:Sb) (L:List (List Nat)) (mt:Int->Int),O.length-i<f->i<=O.length->Lp g h0 h N B X F q s L mt i ->
 Ok (Cx (Ag TT disp K d false) (Ag TT disp K d true) K f (.ptr B.c 0) (.ptr q 0) vo (I O.length) (I i) h) fun v h'=>v=.bool true/\∀j,j<N->h'.get j=h0.get j:=by
 intro f;induction f with
 | zero=>intro i h X s L mt hf;omega
 | succ f ih=>
  intro i h X s L mt hf hi P;rw[Cx];simp only[I,Ac];have S:Er (.tuple []) false=false/\Er (.tuple []) true=false:=⟨rfl,rfl⟩;by_cases p:i<O.length
  case neg=>
   have:decide ((i:Int)<(O.length:Int))=false:=by simp;omega
   simp only[this,Aa,Rg];exact .ret ⟨rfl,P.same⟩
  have:decide ((i:Int)<(O.length:Int))=true:=by simp;omega
  have Rh:ku h vo bo O:=R0.frame fun y=>P.same _ (lo y)
  simp only[this,Aa,Qe];rw[Rh.at p];have w:=Rh.wf _ (bH p);generalize O[i]=o at w⊢;have ol:=iS.len w
  try simp only[Aa]
  refine Ok.mk (by simp) ol fun h1 m T n1=>?_
  have hb:=P.C.hb;have C1:C0 h1 B X (fun j=>F j\/j=h.next):=(P.C.ext m).less fun j hj=>by
   rcases hj with hj|rfl
   ·exact .inl hj
   ·exact .inr ⟨aE _,by omega⟩
  have nx:∀(J:Ab) (Y:Co) (U:Sb) (V:List (List Nat)) (a:Int->Int),Lp g h0 J N B Y F q U V a (i+1)->Ok (Hl (Ag TT disp K d false) (Ag TT disp K d true) K (Cx (Ag TT disp K d false) (Ag TT disp K d true) K f) (.ptr B.c 0) (.ptr q 0) vo (I O.length) (I i) J) fun v h'=>v=.bool true/\∀j,j<N->h'.get j=h0.get j:=fun J Y U V a P3=>by
   simp only[Hl,dr,I,Ac];rw[Cl,show((i:Nat):Int)+1=((i+1:Nat):Int) by omega];exact ih (i+1) J Y U V a (by omega) (by omega) P3
  simp only[I]at nx;rw[Ai T rfl (v:=I o.kind) rfl];simp only[I,Ac];by_cases k6:o.kind=6
  ·rw[aM k6]
   simp only[Aa];exact nx h1 X s L mt ⟨(P.C.Y8 m).C,P.fq,P.nq,P.lN,m.at hb P.gq,⟨P.k.c0,P.k.c1,P.k.de,P.k.ba,P.k.t0,by have:=P.k.t1;omega⟩,P.j,P.gg,⟨P.gen.1,by have:=P.gen.2;omega⟩,by have:=P.nx;omega,fun j hj=>by
    rw[m.get _ (P.C.M.lt _ (.inl (P.lN j hj))) id];exact P.same j hj⟩
  rw[aJ k6];simp only[Aa,Qi];rw[Cn T rfl (Aj ol)];have gen:=P.gen;have ay:=P.nx;refine(Brb A hK C1 P.j (.inl P.fq) (m.at hb P.gq) P.gen.1 P.k (by omega) (by omega) (by omega) w k6 hd).Am ?_;rintro _ h2 ⟨ok,e,Y,L',mt',s',rfl,C2,x2,g2,k2,j2,t,w5,we⟩;have lq:=hb _ _ P.gq;have u:h2.get h.next=some (.cells o.cells 78):=by
   rw[x2.get _ (by omega) fun y=>by rcases y with y|y;exact y (.inr rfl);omega];exact T
  have P2:Lp g h0 h2 N B Y F q s' L' mt' (i+1):=⟨C2.less fun _=>.inl,P.fq,P.nq,P.lN,g2,by rw[t.g];exact k2,j2,t.g.trans P.gg,⟨by have:=t.gen;omega,by have:=t.gen;omega⟩,by have:=t.nx;omega,fun j hj=>by
   have lb:=P.C.M.lt _ (.inl (P.lN j hj));rw[x2.get _ (by omega) fun y=>by rcases y with y|y;exact y (.inl (P.lN j hj));have:=P.nq;omega,m.get _ lb id];exact P.same j hj⟩
  have fin:=nx h2 Y s' L' mt' P2;have j4:Ok (K3 (Ag TT disp K d false) (Ag TT disp K d true) K (Cx (Ag TT disp K d false) (Ag TT disp K d true) K f) (.ptr B.c 0) (.ptr q 0) vo (.int .i64 (O.length:Int)) (.int .i64 (i:Int)) (.bool false) (.bool false) h2) fun v h'=>v=.bool true/\∀j,j<N->h'.get j=h0.get j:=by
   simp only[K3,Aa,Cv];rw[Bho (B:=B) g2,Au,k2.de];simp only[Ry,Aa,Cv];exact fin
  have j7:∀x y:EV,(∀k:EV->R,kE x y (.bool false) k=k (.bool false))->Ok (Lb (Ag TT disp K d false) (Ag TT disp K d true) K (Cx (Ag TT disp K d false) (Ag TT disp K d true) K f) (.ptr B.c 0) (.ptr q 0) (.ptr h.next 0) (.bool ok) vo (.int .i64 (O.length:Int)) (.int .i64 (i:Int)) x y h2) fun v h'=>v=.bool true/\∀j,j<N->h'.get j=h0.get j:=fun x y hp=>by
   simp only[Lb,hG,dr];rw[hp];simp only[Aa,Cv];rw[Ai u rfl (v:=I o.kind) rfl];simp only[I,Ac];by_cases G:o.kind=5
   ·rw[aM G]
    obtain⟨_,eo⟩:=w5 G;simp only[K9,Aa,Cv];rw[Bjx (B:=B) g2,Au];simp only[I,Ac];rw[Buh,eo,bne_self_eq_false];simp only[Lc,Aa,Cv];exact j4
   ·rw[aJ G]
    simp only[K9,Aa,Cv,Lc];exact j4
  simp only[I,Aa,Ac];rcases we with e0|ad
  ·rw[e0]
   simp only[aB,aA];simp only[Aa,Cv,Lg,K8,S];exact j7 _ _ fun k=>rfl
  ·have G:¬o.kind=5:=fun y=>by have:=(w5 y).1;omega
   rw[ad,show decide (¬(13:Int)=0)=true from rfl];simp only[Aa,Cv];simp only[aB,aA];simp only[Aa,Cv,Lg];rw[Ai u rfl (v:=I o.kind) rfl];simp only[I,Ac];rw[aJ G];simp only[Aa,Cv,K8];exact j7 _ _ fun k=>rfl
theorem Bk3(A:Bv disp)(hK:3000000<K)(hd:33<=d)(g:Gm)(hb:HB h)(R0:ku h vo bo O)(M:0<O.length->bo<h.next):
 Ok (Ol (Ag TT disp K d false) (Ag TT disp K d true) K (gV g) vo h) fun v h'=>v=.bool true/\∀i,i<h.next->h'.get i=h.get i:=by
 simp only[Ol,gV,Aa];obtain⟨h0,e_,t,g0,n0⟩:=nW h (.cells (gL g) 23);rw[e_];refine(Bd9 A (by omega) hd (t.hb hb)).Am ?_;rintro _ u ⟨rfl,C,G⟩;have t1:=C.next
 have g1:=C.at (t.hb hb) g0 (show h.next<h0.next by omega);simp only[Qm,Aa];rw[Cy g1 rfl,Aj (n:=6) rfl]
 try simp only[Aa]
 rw[show EV.agg (gL g)=gV g from rfl];refine(VD (K:=K) A (by omega) (d:=d) (by omega) g G).Am ?_;rintro v h2 ⟨T,ah,p⟩;have ai:Er (.tuple []) false=false/\Er (.tuple []) true=false:=⟨rfl,rfl⟩;have a:∀i,i<h.next->h2.get i=h.get i:=fun i m=>by rw[T.get i (by omega) fun y=>y (show i<u.next by omega),C.get i (by omega) fun y=>y (show i<h0.next by omega),t.get i m id]
 have R2:ku h2 vo bo O:=R0.frame fun y=>a bo (M y)
 have t2:=T.next
 by_cases U:rtB g=true/\g.D*g.Z<=64
 case neg=>
  rw[aG U]at p;subst p;rw[A4x];simp only[Aa,Cv,Gt];exact .ret ⟨rfl,a⟩
 rw[aI U]at p;obtain⟨B,Y,rfl,C2,lB,jY,V,gY⟩:=p;rw[VF];simp only[Aa,Cv];rw[R2.Hg];simp only[I,Ac];by_cases e:120<(O.length:Int)
 ·simp only[e,aC,Aa,Cv,Gt]
  exact .ret ⟨rfl,a⟩
 simp only[e,aA,Aa,Cv,Gt,Qq,sj];rw[Ax (l:=(⟨0,false,0,0,0,0,0⟩:Sb).cells B.c) rfl];simp only[Aa];have J:Ext h2 (h2.new (.cells ((⟨0,false,0,0,0,0,0⟩:Sb).cells B.c) 135)):=Av.new _ _;have g3:Afo (h2.new (.cells ((⟨0,false,0,0,0,0,0⟩:Sb).cells B.c) 135)) h2.next B.c ⟨0,false,0,0,0,0,0⟩:=Ad _ _
 have n3:(h2.new (.cells ((⟨0,false,0,0,0,0,0⟩:Sb).cells B.c) 135)).next=h2.next+1:=rfl
 generalize h2.new (.cells ((⟨0,false,0,0,0,0,0⟩:Sb).cells B.c) 135)=h3 at J g3 n3⊢;rw[R2.Hg];have C3:C0 h3 B Y (fun i=>i<u.next\/i=h2.next):=(C2.ext J).less fun i m=>by
  rcases m with m|rfl
  ·exact .inl m
  ·exact .inr ⟨aE _,by omega⟩
 have gg:(Co.start g).S.g=g:=(pT (Ff g) (Fh g) (Mi.new g) (g.D*g.Z).toNat).2.1;have sB:=C3.sm.b0;have nx:=V.nx;have ao:(Co.start g).nx=1:=rfl;refine Bgi A hK hd (by omega) (q:=h2.next) (g:=g) (F:=fun i=>i<u.next\/i=h2.next) (N:=h.next) M R0 K 0 h3 Y ⟨0,false,0,0,0,0,0⟩ (pC g) (fun _=>-1) (by omega) (by omega) ⟨C3,.inr rfl,by omega,fun j hj=>.inl (by omega),g3,⟨cO _,by show(0:Int)<_;omega,rfl,rfl,cO _,cO _⟩,jY,V.g.trans gg,⟨by omega,by omega⟩,by omega,fun i m=>(J.get i (by omega) id).trans (a i m)⟩
end Go.Ev

namespace Go.Ev
end Go.Ev

namespace Go.Ev
open Go.Proofs
set_option maxRecDepth 100000
section
set_option maxRecDepth 100000
end
section
open Go.ChangeShapes Go.WideShapes Go.ChangeAt Go.RowKit Go.Deep
set_option maxRecDepth 100000
theorem Bsi {P:Program}{w:World}{base:Nat}{t e:TypeId}{v:Value}(j:P.underlying t=some (.slice e))(h:Value.okWide P w .any base t v):v=.slice none 0 0\/∃a len cap,v=.slice (some a) len cap/\a.spot=none/\∃row cells,w.shape? a.block=some (row,cells):=by
 unfold Value.okWide at h;rw[j]at h;simp only at h;unfold Cell.okWide at h;rw[j]at h;simp only at h;unfold Cell.ok at h;rw[j]at h;split at h<;>first|(rename_i e;cases e;done)|skip
 all_goals first|exact .inl rfl|skip
 all_goals first|(exact h.elim)|skip
 ·rename_i e
  cases e;exact .inr ⟨_,_,_,rfl,h.2.2.2.1,by obtain⟨row,cells,hs,_⟩:=h.2.2.2.2;exact⟨row,cells,hs⟩⟩
end
section
open Go.ChangeShapes Go.WideShapes Go.ChangeAt Go.RowKit Go.Deep
set_option maxRecDepth 100000
section
variable {P:Program}{W:World}{H:Type}{enc:TypeId × Value->H}{base b2:Nat}{sp:Nat->Bool}{hd:Bool}
end
end
section
open Go.ChangeShapes Go.WideShapes Go.ChangeAt Go.RowKit Go.Deep
set_option maxRecDepth 100000
inductive Ct where
 | int (k:IntKind)
 | bool
 | str
 | row (e:TypeId)
def tj(P:Program)(rec:TypeId->Option (List Ct)):List Field->Nat->Option (List Ct)
 | [],_=>some []
 | f::r,off=>if f.offset=off then
  match rec f.type with
  | some l=>if P.cellsOf f.type=l.length then(tj P rec r (off+l.length)).map (l ++ ·)else none
  | none=>none
  else none
def qN(P:Program):Nat->TypeId->Option (List Ct)
 | 0,_=>none
 | d+1,t=>match P.underlying t with
  | some (.int k)=>some [.int k]
  | some .bool=>some [.bool]
  | some .string=>some [.str]
  | some (.slice e)=>some [.row e]
  | some (.struct a)=>match tj P (qN P d) a.toList 0 with
   | some l=>if P.cellsOf t=l.length then some l else none
   | none=>none
  | some (.array n e)=>match qN P d e with
   | some l=>if P.cellsOf e=l.length/\P.cellsOf t=n*l.length then some (List.replicate n l).flatten else none
   | none=>none
  | _=>none
def vR(P:Program):Ct->TypeId->Prop
 | .int k,t=>P.underlying t=some (.int k)
 | .bool,t=>P.underlying t=some .bool
 | .str,t=>P.underlying t=some .string
 | .row e,t=>P.underlying t=some (.slice e)
inductive Sub {H:Type} (d:DataW H):DataW H->Prop where
 | refl:Sub d d
 | agg {x:DataW H} {l:List (DataW H)}:x∈l->Sub d x->Sub d (.agg l)
 | elem {x:DataW H} {l r:List (DataW H)}:x∈l->Sub d x->Sub d (.slice l r)
theorem VH {P:Program}{rec:TypeId->Option (List Ct)}:∀{fl:List Field} {off:Nat} {e:List Ct},tj P rec fl off=some e->∀(i:Nat) c,e[i]? = some c->∃(j:Nat) (f:Field) (l:List Ct) (r:Nat),fl[j]? = some f/\rec f.type=some l/\P.cellsOf f.type=l.length/\l[r]? = some c/\f.offset+r=off+i
 | [],off,e,h,i,c,a=>by cases h;cases a
 | f::fl,off,e,h,i,c,a=>by
  unfold tj at h;split at h
  ·rename_i p
   split at h
   ·rename_i l t
    split at h
    ·rename_i u
     cases hr:tj P rec fl (off+l.length)with
     | none=>rw[hr]at h;cases h
     | some C=>
      rw[hr]at h;cases h;by_cases m:i<l.length
      ·rw[bm m]at a
       exact⟨0,f,l,i,rfl,t,u,a,by rw[p]⟩
      ·rw[bU (by omega)]at a
       obtain⟨j,f',l',r,G,h2,J,h4,M⟩:=VH hr _ c a;exact⟨j+1,f',l',r,G,h2,J,h4,by omega⟩
    ·cases h
   ·cases h
  ·cases h
section
variable {P:Program}{W:World}{H:Type}{enc:TypeId × Value->H}{base:Nat}{sp:Nat->Bool}{hd:Bool}
theorem Bml:∀(dp:Nat) {t:TypeId} {J:List Ct} {fuel:Nat} {cs:List Value} {x:DataW H × List MemPlace},qN P dp t=some J->DataW.trod enc P W base sp hd fuel t cs=some x ->
 cs.length=J.length/\∀(i:Nat) c,J[i]? = some c->∃v u C G,cs[i]? = some v/\Sub G.1 x.1/\DataW.trod enc P W base sp hd u C [v]=some G/\vR P c C:=by
 intro dp;induction dp with
 | zero=>intro t J fuel cs x h;cases h
 | succ dp ih=>
  intro t J fuel cs x p h;have one:∀{v:Value} {c:Ct},cs = [v]->J = [c]->vR P c t->cs.length=J.length/\∀(i:Nat) c,J[i]? = some c->∃v u C G,cs[i]? = some v/\Sub G.1 x.1/\DataW.trod enc P W base sp hd u C [v]=some G/\vR P c C:=fun {v c} e1 e2 e3=>by
   subst e1;subst e2;refine⟨rfl,fun i c' M=>?_⟩;cases i with
   | zero=>cases M;exact⟨v,fuel,t,x,rfl,.refl,h,e3⟩
   | succ i=>cases M
  unfold qN at p;split at p
  ·rename_i k hu
   cases p;obtain⟨n,rfl,_,_⟩:=DataW.trod_int hu h;exact one rfl rfl hu
  ·rename_i hu
   cases p;obtain⟨b,rfl,_⟩:=DataW.trod_bool hu h;exact one rfl rfl hu
  ·rename_i hu
   cases p;obtain⟨b,rfl,_⟩:=DataW.trod_string hu h;exact one rfl rfl hu
  ·rename_i e hu
   cases p;rcases DataW.trod_slice hu h with⟨rfl,_⟩|⟨a,len,cap,el,rs,n,_,rfl,_⟩
   ·exact one rfl rfl hu
   ·exact one rfl rfl hu
  ·rename_i fs hu
   split at p
   ·rename_i l hl
    split at p
    ·rename_i hlen
     cases p;obtain⟨xs,n,_,rfl,S,T,hf⟩:=DataW.trod_struct hu h;refine⟨by rw[S,hlen],fun i c M=>?_⟩;obtain⟨j,f,l',r,h1,h2,h3,h4,h5⟩:=VH hl i c M;have ab:fs[j]? = some f:=by rw[<-cM];exact h1
     have hj:j<xs.length:=by rw[T];exact(cq.1 ab).1
     have g:=hf j f ab;rw[aD hj]at g;obtain⟨a1,a2⟩:=ih h2 g;obtain⟨v,fu,C,G,b1,b2,b3,b4⟩:=a2 r c h4;refine⟨v,fu,C,G,?_,.agg (cW.2 ⟨_,bH hj,rfl⟩) b2,b3,b4⟩;have hr:=(aY.1 h4).1;rw[fI,aI (by rw[h3];exact hr),dT]at b1;rw[show i=f.offset+r by omega];exact b1
    ·cases p
   ·cases p
  ·rename_i n e hu
   split at p
   ·rename_i l hl
    split at p
    ·rename_i U
     cases p;obtain⟨xs,m,_,rfl,S,T,hg⟩:=DataW.trod_array hu h;have ad:∀k,(List.replicate k l).flatten.length=k*l.length:=fun k=>by simp
     refine⟨by rw[S,U.2,ad],fun i c M=>?_⟩;have V:=(aY.1 M).1;rw[ad]at V;have hp:0<l.length:=Nat.pos_of_ne_zero fun y=>by rw[y]at V;omega
     have aa:i/l.length<n:=fZ (by rw[gN];exact V);have hr:i%l.length<l.length:=Nat.mod_lt _ hp;have e1:i=i/l.length*l.length+i%l.length:=by have:=Nat.div_add_mod i l.length;rw[gN]at this;omega
     have Ou:∀(k j r:Nat),j<k->r<l.length->(List.replicate k l).flatten[j*l.length+r]? = l[r]?:=by
      intro k;induction k with
      | zero=>intro j r hj;omega
      | succ k ai=>
       intro j r hj hr;rw[eC,cJ];cases j with
       | zero=>rw[gK,bM,bm hr]
       | succ j=>rw[bU (by rw[fR];omega),show(j+1)*l.length+r-l.length=j*l.length+r by rw[fR];omega];exact ai j r (by omega) hr
     rw[e1,Ou n _ _ aa hr]at M;have g:=hg _ aa;have hj:i/l.length<xs.length:=by rw[T];exact aa
     rw[aD hj]at g;obtain⟨a1,a2⟩:=ih hl g;obtain⟨v,fu,C,G,b1,b2,b3,b4⟩:=a2 _ c M;refine⟨v,fu,C,G,?_,.agg (cW.2 ⟨_,bH hj,rfl⟩) b2,b3,b4⟩;rw[fI,aI (by rw[U.1];exact hr),dT,U.1]at b1;rw[e1];exact b1
    ·cases p
   ·cases p
  ·cases p
def zu(w:World)(v:Value)(n:Nat)(L:List (List Value)):Prop:=(v=.slice none 0 0/\L = [])\/∃b off cap arr e fr,v=.slice (some ⟨b,off,none⟩) L.length cap/\L.length<=cap/\w.heap[b]? = some (.cells arr e fr)/\∀(j r:Nat) (hj:j<L.length) x,r<n->L[j][r]? = some x->arr[off+(j*n+r)]? = some x
def qO(P:Program)(W:World)(enc:TypeId × Value->H)(base:Nat)(sp:Nat->Bool)(hd:Bool)(e:List Ct)(d:DataW H)(l:List Value):Prop:=
 l.length=e.length/\∀(i:Nat) c,e[i]? = some c->∃v a j m,l[i]? = some v/\Sub m.1 d/\DataW.trod enc P W base sp hd a j [v]=some m/\vR P c j
theorem Bno {t e:TypeId}{b2 dp:Nat}{u:List Ct}{v:Value}{d:DataW H}{p:List MemPlace}(ht:P.underlying t=some (.slice e))(hc:qN P dp e=some u)(T:P.cellsOf e=u.length)
 (ho:Value.okWide P W .any base t v) (h:DataW.Trod enc P W b2 sp hd t v d p):∃L:List (List Value),zu W v u.length L/\(∀l∈L,qO P W enc b2 sp hd u d l)/\(L = []\/∃el rs,d=.slice el rs/\el.length=L.length):=by
 rcases Bsi ht ho with rfl|⟨⟨b,off,spot⟩,len,cap,rfl,C,row,cells,m⟩
 ·exact⟨[],.inl ⟨rfl,rfl⟩,fun x G=>(by cases G),.inl rfl⟩
 ·obtain⟨fuel,hf⟩:=h
  simp only at C;subst C;rcases DataW.trod_slice ht hf with⟨G,_⟩|⟨a,ag,ah,el,rs,n,_,G,U,hb,hl,hm,V,hi,_⟩
  ·cases G
  ·cases G
   cases U;unfold World.shape? at m;split at m
   ·rename_i arr e' fr hw
    have each:∀i,∃l:List Value,i<len->qO P W enc b2 sp hd u (.slice (el.map (·.1)) (rs.map (·.1))) l/\∀r x,r<u.length->l[r]? = some x->arr[off+(i*u.length+r)]? = some x:=by
     intro i;by_cases S:i<len
     ·have g:=hi i S
      rw[T,aD (by omega)]at g;cases M:W.cells? b2 (Addr.add ⟨b,off,none⟩ (i*u.length)) u.length with
      | none=>rw[M]at g;cases g
      | some cs=>
       rw[M]at g;have g:DataW.trod enc P W b2 sp hd n e cs=some el[i]:=g;obtain⟨a1,a2⟩:=Bml dp hc g;obtain⟨_,_,aa⟩:=World.cells?_some M;refine⟨cs,fun _=>⟨⟨a1,fun j c hj=>?_⟩,fun r x hr G=>?_⟩⟩
       ·obtain⟨v,fu,t',x',b1,b2,b3,b4⟩:=a2 j c hj
        exact⟨v,fu,t',x',b1,.elem (cW.2 ⟨_,bH (by omega),rfl⟩) b2,b3,b4⟩
       ·have:=aa r hr
        rw[G,Addr.add_lit,Addr.add_lit]at this;simp only[World.cell?,hw]at this;rw[<-Nat.add_assoc];exact this
     ·exact⟨[],fun y=>absurd y S⟩
    have F:∀i,{ l:List Value // i<len->qO P W enc b2 sp hd u (.slice (el.map (·.1)) (rs.map (·.1))) l/\∀r x,r<u.length->l[r]? = some x->arr[off+(i*u.length+r)]? = some x }:=fun i=>⟨Classical.choose (each i),Classical.choose_spec (each i)⟩
    have J:((List.range len).map fun i=>(F i).1).length=len:=by simp
    refine⟨(List.range len).map fun i=>(F i).1,.inr ⟨b,off,cap,arr,e',fr,by rw[J],by rw[J];exact hl,hw,fun j r hj x hr G=>?_⟩,fun l ab=>?_,.inr ⟨_,_,rfl,by rw[J,bh,V]⟩⟩
    ·rw[List.getElem_map,List.getElem_range]at G
     exact((F j).2 (by rw[J]at hj;exact hj)).2 r x hr G
    ·obtain⟨i,ad,rfl⟩:=cW.1 ab
     exact((F i).2 (by simpa using ad)).1
   ·cases m
end
end
section
open Go.ChangeShapes Go.WideShapes Go.ChangeAt Go.RowKit Go.Deep
set_option maxRecDepth 100000
def evV:Value->EV
 | .int k n=>.int k n
 | .bool b=>.bool b
 | .string s=>.str s
 | .slice none _ _=>.Aq
 | .slice (some a) len cap=>if cap=0 then .odd a else .slice a.block a.off len cap false
 | _=>.bool false
def Bbo:Loc:=⟨id,fun _=>0⟩
structure A04(N:Nat)(V:Value):Prop where
 back:Cr Bbo (evV V)=V
 ok:(evV V).ok fun i=>i<N
 one:(evV V).one=true
 pl:(evV V).plain=true/\(evV V).cells = [evV V]
structure zx(w:World)(x:Nat × Nat × Nat):Prop where
 Ou:∃arr e fr,w.heap[x.1]? = some (.cells arr e fr)/\∀j,j<x.2.2->∃V,arr[x.2.1+j]? = some V/\A04 w.heap.size V
def jM(arr:Array Value)(o n:Nat):List EV:=(List.range n).map fun j=>evV (arr.getD (o+j) (.bool false))
def Rw(w:World)(A:List (Nat × Nat × Nat))(b:Nat):List (Nat × List EV):=match w.heap[b]? with
 | some (.cells arr _ _)=>(A.filter fun x=>x.1 == b).map fun x=>(x.2.1,jM arr x.2.1 x.2.2)
 | _=>[]
def pE(w:World)(A:List (Nat × Nat × Nat))(b:Nat):Option D3:=match w.heap[b]? with
 | some o=>match Rw w A b with
  | []=>none
  | ws=>some (.view ws o)
 | none=>none
noncomputable def vS(w:World)(A:List (Nat × Nat × Nat)):Nat->Tr D3
 | 0=>.nil
 | n+1=>(vS w A n).put n (pE w A n)
noncomputable def mO(w:World)(A:List (Nat × Nat × Nat)):Ab:=⟨vS w A w.heap.size,w.heap.size,w.heap.size⟩
theorem VI(w:World)(A:List (Nat × Nat × Nat)):∀n i,(vS w A n).get i=if i<n then pE w A i else none
 | 0,i=>by rw[aG (by omega)];rfl
 | n+1,i=>by
  show((vS w A n).put n (pE w A n)).get i=_;rw[Tr.get_put,VI w A n i];by_cases h:n=i
  ·subst h;rw[aI rfl,aI (by omega)]
  ·rw[aG h]
   by_cases h2:i<n
   ·rw[aI h2,aI (by omega)]
   ·rw[aG h2,aG (by omega)]
theorem VJ(w:World)(A:List (Nat × Nat × Nat))(i:Nat):(mO w A).get i=if i<w.heap.size then pE w A i else none:=VI w A _ i
theorem Bhs {w:World}{A:List (Nat × Nat × Nat)}{b:Nat}{o:D3}(h:pE w A b=some o):∃r,w.heap[b]? = some r/\o=.view (Rw w A b) r/\Rw w A b≠[]:=by
 unfold pE at h;split at h
 ·rename_i r hr
  split at h
  ·cases h
  ·rename_i ws a
   cases h;exact⟨r,hr,rfl,a⟩
 ·cases h
theorem zy {w:World}{A:List (Nat × Nat × Nat)}{b:Nat}{arr:Array Value}{e:TypeId}{fr:Nat × Nat}(h:w.heap[b]? = some (.cells arr e fr)):Rw w A b=(A.filter fun x=>x.1 == b).map fun x=>(x.2.1,jM arr x.2.1 x.2.2):=by
 unfold Rw;rw[h]
structure zA(w:World)(h:Ab):Prop where
 hok:T1 (fun i=>i<w.heap.size) h
 rep:T7 Bbo h w
 hb:HB h
 next:h.next=w.heap.size
 view:∀i o,h.get i=some o->∃ws r,o=.view ws r
theorem zB {w:World}{A:List (Nat × Nat × Nat)}(hA:∀x∈A,zx w x):zA w (mO w A):=by
 have cs:∀i o,(mO w A).get i=some o->i<w.heap.size/\∃arr e fr,w.heap[i]? = some (.cells arr e fr)/\o=.view (Rw w A i) (.cells arr e fr)/\∀x∈Rw w A i,∀(j:Nat) v,x.2[j]? = some v->∃V,arr[x.1+j]? = some V/\A04 w.heap.size V/\v=evV V:=fun i o a=>by
  rw[VJ]at a;split at a
  ·rename_i m
   obtain⟨r,hr,rfl,J⟩:=Bhs a;cases r with
   | cells arr e fr=>
    refine⟨m,arr,e,fr,hr,rfl,fun x p j v hj=>?_⟩;rw[zy hr]at p;obtain⟨y,hy,rfl⟩:=cW.1 p;obtain⟨M,S⟩:=eJ.1 hy;have hb:y.1=i:=by simpa using S
    obtain⟨T,e',ad,U,h2⟩:=(hA y M).Ou;rw[hb,hr]at U;cases U;have u:j<y.2.2:=by
     have:=(aY.1 hj).1;unfold jM at this;simpa using this
    obtain⟨V,G,g2⟩:=h2 j u;refine⟨V,G,g2,?_⟩;unfold jM at hj;rw[bD,cP u]at hj;have hj:=gQ hj;rw[<-hj];show evV (arr.getD (y.2.1+j) (.bool false))=evV V;rw[eU,G];rfl
   | _=>exact absurd (by unfold Rw;rw[hr]) J
  ·cases a
 refine⟨⟨fun i m=>m,fun i o a=>?_⟩,⟨fun i o a=>?_,fun i j o o' _ _ e=>e⟩,fun q o a=>(cs q o a).1,rfl,fun i o a=>?_⟩
 ·obtain⟨m,arr,e,fr,hr,rfl,C⟩:=cs i o a
  refine⟨m,fun x p=>⟨(Io _ _).2 fun v t=>?_,dV.2 fun v t=>?_⟩⟩
  ·obtain⟨j,hj⟩:=cj.1 t
   obtain⟨V,_,g,rfl⟩:=C x p j v hj;exact g.ok
  ·obtain⟨j,hj⟩:=cj.1 t
   obtain⟨V,_,g,rfl⟩:=C x p j v hj;exact g.one
 ·obtain⟨m,arr,e,fr,hr,rfl,C⟩:=cs i o a
  refine⟨_,hr,rfl,arr,e,fr,rfl,fun x p j v hj=>?_⟩;obtain⟨V,G,g,rfl⟩:=C x p j v hj;rw[G,g.back]
 ·obtain⟨m,arr,e,fr,hr,rfl,C⟩:=cs i o a
  exact⟨_,_,rfl⟩
theorem A89 {P:Program}{g:Nat}{w:World}{h:Ab}(l:zA w h){args:List EV}{vs:List Value}(u:Bw Bbo args=vs)(C:EV.Tx (fun i=>i<w.heap.size) args){v:EV}{V:Value}(J:∀f,Cr f v=V){h':Ab}
 (G:Good P g args h v h') (same:∀i,i<w.heap.size->h'.get i=h.get i):Calls P g vs.toArray w fun e w'=>e=.returned V/\RowKit.Below w.heap.size w w':=by
 intro cs;obtain⟨fr,f',w',hs,j,p,hm,hwf,M⟩:=G.run _ Bbo w l.hok l.rep C cs;rw[u]at hs;rw[J]at p;refine⟨.returned V,w',fr,⟨rfl,hm.os,hm.tape,hm.output,hm.size,fun k S=>?_⟩,hs,j,p⟩;by_cases t:∃i o,h.get i=some o/\Bbo.b i=k
 ·obtain⟨i,o,a,rfl⟩:=t
  have li:=(l.hok.get i o a).1;obtain⟨ws,r,rfl⟩:=l.view i o a;obtain⟨r1,e1,T,_⟩:=l.rep.obj i _ a;have m:h'.get i=some (.view ws r):=by rw[same i li];exact a
  obtain⟨r2,e2,U,_⟩:=hm.rep.obj i _ m;rw[<-(hm.Fo i li).1]at e2;rw[e2,e1,T,U]
 ·exact hm.kept k S fun i o a e=>t ⟨i,o,a,e⟩
theorem VK(arr:Array Value)(o n:Nat):(jM arr o n).length=n:=by unfold jM;simp
theorem Bol {arr:Array Value}{o n j:Nat}{V:Value}(hj:j<n)(h:arr[o+j]? = some V):(jM arr o n)[j]? = some (evV V):=by
 unfold jM;rw[bD,cP hj];show some (evV (arr.getD (o+j) (.bool false)))=_;rw[eU,h];rfl
theorem Bpg {w:World}{A:List (Nat × Nat × Nat)}{x:Nat × Nat × Nat}(m:x∈A){arr:Array Value}{e:TypeId}{fr:Nat × Nat}(h:w.heap[x.1]? = some (.cells arr e fr)):(mO w A).get x.1=some (.view (Rw w A x.1) (.cells arr e fr)):=by
 have j:x.1<w.heap.size:=(cq.1 h).1;have hm:(x.2.1,jM arr x.2.1 x.2.2)∈Rw w A x.1:=by
  rw[zy h];exact cW.2 ⟨x,eJ.2 ⟨m,by simp⟩,rfl⟩
 rw[VJ,aI j];unfold pE;rw[h];simp only;cases p:Rw w A x.1 with
 | nil=>rw[p]at hm;cases hm
 | cons a r=>rfl
theorem Bsh {w:World}{A:List (Nat × Nat × Nat)}{x:Nat × Nat × Nat}{arr:Array Value}{e:TypeId}{fr:Nat × Nat}(h:w.heap[x.1]? = some (.cells arr e fr)){j n:Nat}(hj:j+n<=x.2.2)(C:0<n){l:List Value}(G:l.length=n)(p:∀(r:Nat) V,l[r]? = some V->arr[x.2.1+(j+r)]? = some V)(k:EV->R):
 Pg n (.ptr x.1 (x.2.1+j)) (mO w (x::A)) k=k (.agg (l.map evV)):=by
 have t:Rw w (x::A) x.1=(x.2.1,jM arr x.2.1 x.2.2)::(A.filter fun y=>y.1 == x.1).map fun y=>(y.2.1,jM arr y.2.1 y.2.2):=by
  rw[zy h,List.filter_cons_of_pos (by simp)];rfl
 have a:mB (Rw w (x::A) x.1) (x.2.1+j)=some (x.2.1,jM arr x.2.1 x.2.2):=by
  rw[t];unfold mB;rw[aQ (show x.2.1<=x.2.1+j by omega),Ak,show Nat.ble (Nat.succ (Nat.sub (x.2.1+j) x.2.1)) (len (jM arr x.2.1 x.2.2))=true from aQ (by rw[Ye,VK];show x.2.1+j-x.2.1+1<=_;omega),Ak]
 have u:Og (jM arr x.2.1 x.2.2) (Nat.sub (x.2.1+j) x.2.1) n=some (l.map evV):=by
  rw[show Nat.sub (x.2.1+j) x.2.1=j by show x.2.1+j-x.2.1=_;omega,Fx (by rw[VK];exact hj)];congr 1;apply eA;intro r;by_cases hr:r<n
  ·have m:l[r]? = some (l[r]'(by omega)):=aD (by omega)
   rw[fI,aI hr,dT,Bol (V:=l[r]'(by omega)) (by omega) (p r _ m),bD,m];rfl
  ·rw[fI,aG hr,cC (by rw[bh];omega)]
 show oB _ (mj ((mO w (x::A)).get x.1) (x.2.1+j) n)=_;rw[Bpg (aW ..) h];show oB _ (match mB (Rw w (x::A) x.1) (x.2.1+j)with|some (o,l)=>Og l (Nat.sub (x.2.1+j) o) n|none=>none)=_;rw[a];show oB _ (Og (jM arr x.2.1 x.2.2) (Nat.sub (x.2.1+j) x.2.1) n)=_;rw[u];rfl
theorem A04.num(N:Nat)(k:IntKind)(n:Int):A04 N (.int k n):=⟨rfl,trivial,rfl,rfl,rfl⟩
end
noncomputable section
def many:Nat:=1099511627776
def zC:Nat->Option FT:=fun _=>none
theorem VL:∀g F,zC g=some F->o_ TP g F:=fun _ _ h=>by cases h
def VM(v:EV)(r:R):Bool:=match r with|some (w,_)=>hU w v|none=>false
end
theorem Br8:VM Uh (Ag TT zC many 60 false 51 [] ⟨.nil,0,0⟩)=true:=by kernel_rfl
theorem VN:(Be.all fun v=>match v with | .int _ _=>true|_=>false)=true:=by kernel_rfl
theorem Bj6 {l:List EV}(h:(l.all fun v=>match v with | .int _ _=>true|_=>false)=true)(f g:Loc):Bw f l=Bw g l:=by
 induction l with
 | nil=>rfl
 | cons a r e=>
  rw[List.all_cons,aS]at h;simp only[Bw];rw[e h.2];cases a<;>first|rfl|(simp at h)
theorem Bo6 {l:List EV}(h:(l.all fun v=>match v with | .int _ _=>true|_=>false)=true)(p:Nat->Prop):EV.Tx p l/\l.all EV.one=true:=by
 induction l with
 | nil=>exact⟨trivial,rfl⟩
 | cons a r e=>
  rw[List.all_cons,aS]at h;obtain⟨i1,i2⟩:=e h.2;rw[List.all_cons,i2];cases a<;>first|exact⟨⟨trivial,i1⟩,rfl⟩|(simp at h)
theorem Bcp:o_ TP 51 A77:=by
 intro call round K _ _ args h v h' e;have hs:=(yl FC VL many 60).1;have hr:=Br8;unfold VM at hr;split at hr
 ·rename_i w h0 j
  have hw:=PS hr;subst hw;obtain⟨fn,t,hb,u⟩:=(hs 51 [] _ _ _ j).fn;have m:∀f,Cr f Uh=Cr ⟨fun _=>0,fun _=>0⟩ Uh:=fun f=>by
   show Cr f (.agg Be)=Cr _ (.agg Be);simp only[Cr];rw[Bj6 VN f ⟨fun _=>0,fun _=>0⟩]
  obtain⟨C,G⟩:=Bef (P:=TP) (g:=51) (v:=Uh) m (fun p=>Bo6 VN p) t hb u (fun w=>Bdz hs.call j m w);cases args with
  | nil=>exact Sound.of C G 51 [] h v h' e
  | cons a r=>cases e
 ·cases hr
theorem Bgh {P:Program}{disp:Nat->Option FT}(h:∀g F,disp g=some F->o_ P g F){n:Nat}{G:FT}(a:o_ P n G):∀g F,Bb (Nat.beq g n) (some G) (disp g)=some F->o_ P g F:=by
 intro g F e;rw[Bq]at e;split at e
 ·rename_i hb;cases e;rw[beq_spec hb];exact a
 ·exact h g F e
noncomputable def zD:Nat->Option FT:=fun f=>Bb (Nat.beq f 51) (some A77) (zC f)
theorem Bjh:∀g F,zD g=some F->o_ TP g F:=Bgh VL Bcp
section
open Go.Proofs Go.ChangeShapes Go.WideShapes Go.ChangeAt Go.RowKit Go.Deep
set_option maxRecDepth 100000
def zE:List Ct:=List.replicate 4 (.int .i64)++List.replicate 64 (.int .u8)
def zF:List Ct:=[.int .i64,.int .i64,.int .i64]++zE
theorem Bul:qN TP 8 78=some zF:=by kernel_rfl
structure tl(N:Nat)(l:List Value)(o:iS):Prop where
 cells:l.map evV=o.cells
 ev:o.ev.Wf
 Bum:∀V∈l,A04 N V
section
variable {W:World}{H:Type}{enc:TypeId × Value->H}{base:Nat}{hd:Bool}
theorem tp {sp:Nat->Bool}{a:List Ct}{d:DataW H}{l:List Value}(h:qO TP W enc base sp hd a d l){i:Nat}{k:IntKind}(e:a[i]? = some (.int k)):∃n,l[i]? = some (.int k n)/\k.min<=n/\n<=k.max:=by
 obtain⟨v,m,t,x,e1,_,e3,e4⟩:=h.2 i _ e;obtain⟨n,j,_,wf⟩:=DataW.trod_int (show TP.underlying t=some (.int k)from e4) e3;cases j;have wf:(decide (k.min<=n)&&decide (n<=k.max))=true:=wf;rw[aS,aV,aV]at wf;exact⟨n,e1,wf⟩
theorem Bgq {sp:Nat->Bool}{j:List Ct}{d:DataW H}{l:List Value}(h:qO TP W enc base sp hd j d l){o:Nat}(m:∀i,i<68->j[o+i]? = zE[i]?):∃e:Y6,e.Wf/\∀i,i<68->∃V,l[o+i]? = some V/\A04 W.heap.size V/\e.cells[i]? = some (evV V):=by
 have num:∀i,i<4->∃n,l[o+i]? = some (.int .i64 n):=fun i a=>by
  obtain⟨n,e,_⟩:=tp h (i:=o+i) (k:=.i64) (by rw[m i (by omega)];rcases i with _|_|_|_|i<;>first|rfl|omega);exact⟨n,e⟩
 have pat:∀i,∃b:Nat,b<256/\(i<64->l[o+(4+i)]? = some (.int .u8 (b:Int))):=fun i=>by
  by_cases a:i<64
  ·obtain⟨n,e,p,h2⟩:=tp h (i:=o+(4+i)) (k:=.u8) (by
    rw[m (4+i) (by omega)];unfold zE;rw[bU (by simp),bV,show 4+i-4=i by omega,List.getElem?_replicate,aI a])
   have p:(0:Int)<=n:=p;have h2:n<=255:=h2;exact⟨n.toNat,by omega,fun _=>by rw[e];congr 2;omega⟩
  ·exact⟨0,by decide,fun y=>absurd y a⟩
 obtain⟨n0,e0⟩:=num 0 (by omega);obtain⟨n1,e1⟩:=num 1 (by omega);obtain⟨t,e2⟩:=num 2 (by omega);obtain⟨n3,e3⟩:=num 3 (by omega);have F:∀i,{ b:Nat // b<256/\(i<64->l[o+(4+i)]? = some (.int .u8 (b:Int))) }:=fun i=>⟨Classical.choose (pat i),Classical.choose_spec (pat i)⟩
 refine⟨⟨n0,n1,t,n3,Bj ((List.range 64).map fun i=>(F i).1)⟩,⟨⟨_,fun b hb=>by obtain⟨i,_,rfl⟩:=cW.1 hb;exact(F i).2.1,rfl⟩,by rw[Bg,bh,fJ]⟩,fun i a=>?_⟩;unfold Y6.cells;rcases cb i 4 with y|y
 ·rcases i with _|_|_|_|i
  ·exact⟨_,e0,.num _ _ _,rfl⟩
  ·exact⟨_,e1,.num _ _ _,rfl⟩
  ·exact⟨_,e2,.num _ _ _,rfl⟩
  ·exact⟨_,e3,.num _ _ _,rfl⟩
  ·omega
 ·refine⟨.int .u8 ((F (i-4)).1:Int),?_,.num _ _ _,?_⟩
  ·rw[<-(F (i-4)).2.2 (by omega)];congr 1;omega
  ·rw[bU (by show 4<=i;exact y)]
   show(Bj ((List.range 64).map fun i=>(F i).1))[i-4]? = _;unfold Bj;rw[bD,bD,cP (by omega)];rfl
theorem Bqq {d:DataW H}{l:List Value}(h:qO TP W enc base (fun _=>true) hd zF d l):∃o,tl W.heap.size l o:=by
 have J:l.length=71:=h.1;obtain⟨p,e0,_⟩:=tp h (i:=0) (k:=.i64) rfl;obtain⟨t,e1,_⟩:=tp h (i:=1) (k:=.i64) rfl;obtain⟨u,e2,_⟩:=tp h (i:=2) (k:=.i64) rfl;obtain⟨ev,j,m⟩:=Bgq h (o:=3) (fun i e=>by
  unfold zF;rw[bU (by simp)];congr 1;simp)
 refine⟨⟨p,t,u,ev⟩,?_,j,fun v C=>?_⟩
 ·apply eA
  intro i;unfold iS.cells;rw[bD];rcases cb i 3 with y|y
  ·rw[bm (by show i<3;exact y)]
   rcases i with _|_|_|i
   ·rw[e0];rfl
   ·rw[e1];rfl
   ·rw[e2];rfl
   ·omega
  ·rw[bU (by show 3<=i;exact y)]
   rcases cb i 71 with z|z
   ·obtain⟨v,a,b,c⟩:=m (i-3) (by omega)
    rw[show 3+(i-3)=i by omega]at a;rw[a];exact c.symm
   ·rw[cC (by omega),cC (by rw[Y6.Bc j];show 68<=i-3;omega)];rfl
 ·obtain⟨i,e⟩:=cj.1 C
  have G:=(aY.1 e).1;rcases cb i 3 with y|y
  ·rcases i with _|_|_|i
   ·rw[e0]at e;cases e;exact .num _ _ _
   ·rw[e1]at e;cases e;exact .num _ _ _
   ·rw[e2]at e;cases e;exact .num _ _ _
   ·omega
  ·obtain⟨M,a,b,c⟩:=m (i-3) (by omega)
   rw[show 3+(i-3)=i by omega,e]at a;cases a;exact b
end
theorem VO {N:Nat}:∀{L:List (List Value)},(∀l∈L,∃o,tl N l o)->∃os:List iS,os.length=L.length/\∀(j:Nat) (l:List Value) (o:iS),L[j]? = some l->os[j]? = some o->tl N l o
 | [],_=>⟨[],rfl,fun j l o hj=>by cases hj⟩
 | l::L,h=>by
  obtain⟨o,a⟩:=h l (aW ..);obtain⟨os,e,hj⟩:=VO (L:=L) fun l p=>h l (aU _ p)
  refine⟨o::os,by rw[bG,bG,e],fun j l' o' m h2=>?_⟩;cases j with
  | zero=>cases m;cases h2;exact a
  | succ j=>exact hj j l' o' m h2
theorem Brw {w:World}{v:Value}{L:List (List Value)}(R:zu w v 71 L)(hL:∀l∈L,∃o,tl w.heap.size l o):∃(h:Ab) (b:Nat) (os:List iS),zA w h/\Cr Bbo (evV v)=v/\(evV v).ok (fun i=>i<w.heap.size)/\ku h (evV v) b os/\(0<os.length->b<w.heap.size):=by
 obtain⟨os,el,hj⟩:=VO hL;have mk:∀o∈os,o.ev.Wf:=fun o ho=>by
  obtain⟨j,p⟩:=cj.1 ho;have hl:=(aY.1 p).1;exact(hj j _ o (aD (by omega)) p).ev
 have no:∀x∈([]:List (Nat × Nat × Nat)),zx w x:=fun x t=>by cases t
 rcases R with⟨rfl,rfl⟩|⟨b,off,cap,arr,e,fr,rfl,G,u,J⟩
 ·have:os = []:=fM el
  subst this;exact⟨mO w [],0,[],zB no,rfl,trivial,⟨.inl ⟨rfl,rfl⟩,mk⟩,fun y=>absurd y (bN _)⟩
 ·have M:∀(j:Nat) (m:j<L.length),(L[j]).length=71/\(L[j]).map evV=(os[j]'(by omega)).cells/\∀V∈L[j],A04 w.heap.size V:=fun j m=>by
   have a:=hj j L[j] (os[j]'(by omega)) (aD m) (aD (by omega));have:=congrArg List.length a.cells;rw[bh,iS.len a.ev]at this;exact⟨this,a.cells,a.Bum⟩
  have hb:b<w.heap.size:=(cq.1 u).1;have t:zx w (b,off,L.length*71):=⟨arr,e,fr,u,fun k S=>by
   have S:k<L.length*71:=S;have T:k/71<L.length:=by omega
   obtain⟨n1,_,n3⟩:=M _ T;have h2:k%71<(L[k/71]).length:=by omega
   have:=J (k/71) (k%71) T _ (by omega) (aD h2);rw[show k/71*71+k%71=k by omega]at this;exact⟨_,this,n3 _ (bH h2)⟩⟩
  have e1:∀c,evV (.slice (some ⟨b,off,none⟩) L.length c)=if c=0 then .odd ⟨b,off,none⟩else .slice b off L.length c false:=fun c=>rfl
  rcases dY cap with U|U
  ·subst U
   have:L = []:=fM (by omega);subst this;have:os = []:=fM el;subst this;exact⟨mO w [],0,[],zB no,rfl,trivial,⟨.inl ⟨rfl,rfl⟩,mk⟩,fun y=>absurd y (bN _)⟩
  ·refine⟨mO w [(b,off,L.length*71)],b,os,zB fun x C=>?_,?_,?_,⟨.inr ⟨off,cap,false,?_,fun j m k=>?_⟩,mk⟩,fun _=>hb⟩
   ·rw[aP.1 C];exact t
   ·rw[e1,aG (by omega)];rfl
   ·rw[e1,aG (by omega)];exact hb
   ·rw[e1,aG (by omega),el]
   ·obtain⟨n1,n2,n3⟩:=M j (by omega)
    have:=Bsh (w:=w) (A:=[]) (x:=(b,off,L.length*71)) u (j:=j*71) (n:=71) (by show j*71+71<=L.length*71;omega) (by decide) n1 (fun r V hV=>J j r (by omega) V (by have:=(aY.1 hV).1;omega) hV) k;rw[n2]at this;exact this
end
theorem VP {a b:Bool}(h:Bb a false b=true):a=false/\b=true:=by cases a<;>simp_all [Bq]
theorem VQ:Bv zD:=by
 refine⟨fun g h=>?_,by kernel_rfl⟩;obtain⟨_,h⟩:=VP h;obtain⟨a,_⟩:=VP h;unfold zD;rw[a];rfl
theorem Bc4(D Z S B P O:Int)(v1:Value)(w:World){L:List (List Value)}(R1:zu w v1 71 L)(j:∀l∈L,∃o,tl w.heap.size l o):
 Calls Tryz.prog 10 #[.agg #[.int .i64 D,.int .i64 Z,.int .i64 S,.int .i64 B,.int .i64 P,.int .i64 O],v1] w fun e w'=>e=.returned (.bool true)/\RowKit.Below w.heap.size w w':=by
 obtain⟨h,b,os,a,e1,o1,m,l1⟩:=Brw R1 j;obtain⟨v,h',e,rfl,same⟩:=Bk3 (K:=many) VQ (by unfold many;decide) (d:=40) (by omega) ⟨D,Z,S,B,P,O⟩ a.hb m (by rw[a.next];exact l1);rw[<-Acw VQ (by decide)]at e;refine A89 a (args:=[gV ⟨D,Z,S,B,P,O⟩,evV v1]) (vs:=[.agg #[.int .i64 D,.int .i64 Z,.int .i64 S,.int .i64 B,.int .i64 P,.int .i64 O],v1]) ?_ ?_ (fun _=>rfl) ((yl FC Bjh many 41).1 10 _ _ _ _ e) (fun i p=>same i (by rw[a.next];exact p))
 ·show[Cr Bbo (gV ⟨D,Z,S,B,P,O⟩),Cr Bbo (evV v1)]=_
  rw[e1];rfl
 ·exact⟨by simp[EV.Tx,EV.ok,gV,gL,I,EV.one],o1,trivial⟩
end Go.Ev
