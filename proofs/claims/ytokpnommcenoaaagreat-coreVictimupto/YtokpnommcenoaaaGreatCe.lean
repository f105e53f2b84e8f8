import Derived.Test.YtokpnommcenoaaaGreatCd
import Derived.Test.YtokpnommcenoaaaGreatDc
import Derived.Test.YtokpnommcenoaaaGreatVb
set_option linter.all false
namespace Go.Ev
open Go.Proofs
set_option maxRecDepth 100000
variable {g:Gm}{K b d i m v1:Nat}{F:Nat->Prop}{h h' h0:Ab}{Q:EV->Ab->Prop}{L:List Int}{v:EV}{B:Cb}{X:Co}{disp:Nat->Option FT}
noncomputable def Mi.A6z(cur Cr:Nat->Int)(S:Mi)(z:Int):Mi:=if Avg cur Cr z=true then S else S.A86 z
noncomputable def Mi.Ajo(cur Cr:Nat->Int)(S:Mi):Nat->Mi
 | 0=>S
 | n+1=>(Mi.Ajo cur Cr S n).A6z cur Cr n
theorem Bfv(cur Cr:Nat->Int)(S:Mi)(z:Int):(S.A6z cur Cr z).bad=S.bad/\(S.A6z cur Cr z).g=S.g/\(S.A6z cur Cr z).dr=S.dr:=by
 unfold Mi.A6z;split<;>exact⟨rfl,rfl,rfl⟩
theorem Aea(cur Cr:Nat->Int)(S:Mi):∀n,(S.Ajo cur Cr n).bad=S.bad/\(S.Ajo cur Cr n).g=S.g/\(S.Ajo cur Cr n).dr=S.dr
 | 0=>⟨rfl,rfl,rfl⟩
 | n+1=>by
  obtain⟨a,b,c⟩:=Bfv cur Cr (S.Ajo cur Cr n) n;obtain⟨d,e,f⟩:=Aea cur Cr S n;exact⟨a.trans d,b.trans e,c.trans f⟩
def Sh(g:Gm):Nat->Int:=N3 (N3 (N3 (fun _=>-1) 0 0) 1 g.Z) 2 (2*g.Z)
def Sc(g:Gm):Nat->Int:=N3 (N3 (N3 (fun _=>-1) 0 1) 1 (g.Z+1)) 2 (2*g.Z+1)
noncomputable def Co.start(g:Gm):Co:=⟨(Mi.new g).Ajo (Sh g) (Sc g) (g.D*g.Z).toNat,Sh g,Sc g,List.replicate g.B.toNat (Me.nil 0),0,1,1,false⟩
theorem Bm6(a:rtB g=true):g.P+3<=g.Z:=by
 have s:=Zf a;have h:2*g.B<=g.S*g.segments:=by
  unfold rtB at a;simp only[bI,bE]at a;exact a.2.2
 have:=s.b0;have:=s.s0;have:=s.d0;have:=s.p0;have e:1<=g.segments:=by
  rcases Int.lt_or_le 0 g.segments with y|y
  ·omega
  ·have:g.S*g.segments<=g.S*0:=dX y (by omega)
   omega
 by_cases f:g.P+3<=g.Z
 ·exact f
 ·exfalso
  unfold Gm.segments at e;have u0:(g.D-1)*(g.Z-g.P-2)<=0:=Int.mul_nonpos_of_nonneg_of_nonpos (by omega) (by omega);have dp:0<=g.D*g.P:=Int.mul_nonneg (by omega) (by omega);have h2:g.least<=(g.D-1)*(g.Z-g.P-2)-g.Alk+1:=Int.min_le_left _ _;unfold Gm.Alk at h2;omega
theorem Agm(s:Sm g){k:Int}(f:(i:Int)<g.D)(a:0<=k)(e:k<g.Z):Ej g (i*g.Z+k)=i:=by
 have:=s.z0;have j:(0:Int)<=i*g.Z:=Int.mul_nonneg (by omega) (by omega);have h2:(i:Int)*g.Z+g.Z<=g.D*g.Z:=by
  have:((i:Int)+1)*g.Z<=g.D*g.Z:=Int.mul_le_mul_of_nonneg_right (by omega) (by omega);rw[Int.add_mul,Int.one_mul]at this;exact this
 unfold Ej;rw[aK (by omega),Int.add_comm,Int.add_mul_ediv_right _ _ (by omega),Int.ediv_eq_zero_of_lt a e,Int.zero_add]
theorem A74(A:Ca disp)(O:10000<K)(hd:8<=d){n:Nat}(V:n<=600){ar:Nat}{cur Cr:Nat->Int}(P:F ar){S0:Mi}(b0:∀z,S0.bad z=0):∀(f i:Nat) (h:Ab),n-i<f->i<=n->Da h m (S0.Ajo cur Cr i) F->HB h->h.get ar=some (.cells (arC m cur Cr) 212)->Kf F h0 h ->
 (∀h',Da h' m (S0.Ajo cur Cr n) F->Kf F h0 h'->HB h'->Ok (Gr (Ag TT disp K d false) (Ag TT disp K d true) K (.ptr m 0) (.ptr b 0) (.ptr ar 0) h') Q) ->
 Ok (Ec (Ag TT disp K d false) (Ag TT disp K d true) K f (.ptr m 0) (.ptr b 0) (.ptr ar 0) (I n) (I i) h) Q:=by
 intro f;induction f with
 | zero=>intro i h S;omega
 | succ f T=>
  intro i h S W M hb D k E;rw[Ec];simp only[I,Ad];by_cases U:i<n
  ·have:decide ((i:Int)<(n:Int))=true:=by simp;omega
   simp only[this,Aa,Tu];have G:=A4g (K:=K) A (d:=d) (by omega) (by omega) D hb (i:Int);simp only[I]at G;refine G.Ap ?_;rintro _ h2 ⟨rfl,x,e⟩;have M2:=(M.ext hb x).less fun j (hj:F j)=>Or.inl hj
   have t:=x.at hb D;have H:=k.trans (Ext.kf x);have nx:∀a,Da a m (S0.Ajo cur Cr (i+1)) F->HB a->a.get ar=some (.cells (arC m cur Cr) 212)->Kf F h0 a->Ok (Ml (Ag TT disp K d false) (Ag TT disp K d true) K (Ec (Ag TT disp K d false) (Ag TT disp K d true) K f) (.ptr m 0) (.ptr b 0) (.ptr ar 0) (.int .i64 (n:Int)) (.int .i64 (i:Int)) a) Q:=fun a y q C u=>by
    simp only[Ml,Ad];rw[Cn (by omega) (by omega),show((i:Nat):Int)+1=((i+1:Nat):Int) by omega];exact T (i+1) a (by omega) (by omega) y q C u E
   have e1:S0.Ajo cur Cr (i+1)=if Avg cur Cr i=true then S0.Ajo cur Cr i else(S0.Ajo cur Cr i).A86 i:=rfl
   cases J:Avg cur Cr i with
   | true=>
    simp only[Aa];exact nx h2 (by rw[e1,aN J];exact M2) e t H
   | false=>
    simp only[Aa];obtain⟨p,e2,e3⟩:=A6s M2 e A O;rw[e2,Au];refine Ok.Ap (e3 hd (z:=(i:Int)) ⟨by omega,by omega⟩ fun _=>by rw[(Aea cur Cr S0 i).1,b0];decide) ?_;rintro _ a ⟨rfl,y,u,q⟩;exact nx a (by rw[e1,aK (by rw[J];decide)];exact y) q (u.at e t P) (H.trans u)
  ·have:decide ((i:Int)<(n:Int))=false:=by simp;omega
   simp only[this,Aa];have:i=n:=by omega
   subst this;exact E h M k hb
theorem A5g {a:Nat}{x y z:Int}(h:Ab):Aok K (.ptr m 0) (.ptr a 0) (.ptr b 0) (.agg [I x,I y,I z]) h=some (.ptr (h.next+1) 0,(h.new (.cells [I x,I y,I z] 104)).new (.cells [.ptr m 0,.ptr a 0,.ptr b 0,I x,I y,I z,.bool false] 130)):=by
 simp only[Aok,Aa];rw[C8 (Ac _ _) rfl,Am (n:=3) rfl]
 try simp only[Aa]
 rw[Az (l:=[.ptr m 0,.ptr a 0,.ptr b 0,I x,I y,I z,.bool false]) rfl]
 try simp only[Aa]
 rfl
theorem A67(A:Ca disp)(hK:10000<K)(hd:8<=d)(hr:rtB g=true)(hb:HB h){ml ll L:Nat}(g1:h.get v1=some (.cells (gL g) 23))(mp:Q0 h b ml ll g (List.replicate g.B.toNat (Me.nil 0)))(lb:L<=b/\L<=ml/\L<=ll)(M:Da h m (Mi.new g) (fun i=>i<L\/i=b\/i=ml\/i=ll))(lv:v1<L)
 (T:∀h' ar,L<=ar->Da h' m (Co.start g).S (fun i=>i<L\/i=b\/i=ml\/i=ll\/i=ar)->h'.get ar=some (.cells (arC m (Sh g) (Sc g)) 212)->Q0 h' b ml ll g (List.replicate g.B.toNat (Me.nil 0))->Kf (fun i=>i<L) h h'->HB h'->Ok (Gr (Ag TT disp K d false) (Ag TT disp K d true) K (.ptr m 0) (.ptr b 0) (.ptr ar 0) h') Q) :
 Ok (Lm (Ag TT disp K d false) (Ag TT disp K d true) K (.ptr v1 0) (.ptr m 0) (.ptr b 0) h) Q:=by
 have s:=Zf hr;have zz:=Bm6 hr;have:=s.d0;have:=s.d1;have:=s.z0;have:=s.z1;have:=s.p0;obtain⟨m0,m1⟩:=N1 (a:=g.D) (b:=g.Z) (A:=8) (B:=64) (by omega) (by omega) (by omega) (by omega);simp only[Lm,dr];refine(A5k (K:=K) (by omega) hb m).Ap ?_;rintro _ h2 ⟨rfl,ga,P,p⟩;have la:=p _ _ ga;have lm:h.next<=h.next:=aC _
 have l1:=hb _ _ g1;have l3:=hb _ _ mp.map;have l4:=hb _ _ mp.row;have l5:=hb _ _ mp.live;have M2:Da h2 m (Mi.new g) (fun i=>i<L\/i=b\/i=ml\/i=ll\/i=h.next):=(M.ext hb P).less fun i f=>by
  rcases f with f|f|f|f|f
  ·exact .inl (.inl f)
  ·exact .inl (.inr (.inl f))
  ·exact .inl (.inr (.inr (.inl f)))
  ·exact .inl (.inr (.inr (.inr f)))
  ·exact .inr ⟨by omega,by omega⟩
 have hL:L<=h.next:=by omega
 have O:=P.at hb g1;generalize h.next=ar at *
 have U:(fun i=>i<L\/i=b\/i=ml\/i=ll\/i=ar) ar:=.inr (.inr (.inr (.inr rfl)));have st:∀(i:Nat) (q:Ab) (c o:Nat->Int) (n:Nat),i<3->Da q m (Mi.new g) (fun i=>i<L\/i=b\/i=ml\/i=ll\/i=ar)->HB q->q.get ar=some (.cells (arC m c o) 212)->Ar (fun j=>j=ar) h2 q ->
  (∀h4,Da h4 m (Mi.new g) (fun i=>i<L\/i=b\/i=ml\/i=ll\/i=ar)->HB h4->h4.get ar=some (.cells (arC m (N3 c i (i*g.Z)) (N3 o i (i*g.Z+1))) 212)->Ar (fun j=>j=ar) h2 h4->Ok (Dq (Ag TT disp K d false) (Ag TT disp K d true) K n (.ptr v1 0) (.ptr m 0) (.ptr b 0) (.ptr ar 0) (I (i+1:Nat)) h4) Q) ->
  Ok (Dq (Ag TT disp K d false) (Ag TT disp K d true) K (n+1) (.ptr v1 0) (.ptr m 0) (.ptr b 0) (.ptr ar 0) (I i) q) Q:=by
  intro i q c o n f V u x c3 T;rw[Dq];simp only[I,Ad];have:decide ((i:Int)<3)=true:=by simp;omega
  simp only[this,Aa,Tp];have W:=c3.at p O (by show ¬v1=ar;omega);have ld:∀k:EV->R,Dr (.ptr v1 1) q k=k (I g.Z):=fun k=>Aj W rfl rfl
  obtain⟨a0,a1⟩:=N1 (a:=(i:Int)) (b:=g.Z) (A:=3) (B:=64) (by omega) (by omega) (by omega) (by omega);simp only[ld,I,Ad];rw[Cn (by omega) (by omega),Cn (by omega) (by omega)];have d1:=Agm s (i:=i) (k:=0) (by omega) (by omega) (by omega);have d2:=Agm s (i:=i) (k:=1) (by omega) (by omega) (by omega);rw[Int.add_zero]at d1;have so:=Bou (K:=K) V u x U f (v:=i*g.Z) (w:=i*g.Z+1) (.inr d1) (.inr d2) (by omega);simp only[I]at so;refine so.Ap ?_;rintro _ h4 ⟨rfl,Y,C,c4,E⟩;simp only[Tt,Ad];rw[Cn (by omega) (by omega),show((i:Nat):Int)+1=((i+1:Nat):Int) by omega];exact T h4 Y E C (c3.trans c4)
 obtain⟨K',rfl⟩:∃k,K=k+4:=⟨K-4,by omega⟩;refine st 0 h2 _ _ _ (by omega) M2 p ga (Ar.refl _) fun q V u x c3=>st 1 q _ _ _ (by omega) V u x c3 fun h4 Y E C c4=>st 2 h4 _ _ _ (by omega) Y E C c4 fun h5 M5 t G c5=>?_
 rw[Dq];simp only[I,Ad];simp only[show decide (((2+1:Nat):Int)<3)=false from rfl,Aa,Mm];have ab:=c5.at p O (by show ¬v1=ar;omega);rw[C8 ab rfl,Am (n:=6) rfl]
 try simp only[Aa]
 rw[show EV.agg (gL g)=gV g from rfl,Lh s,Au];obtain⟨n,hn⟩:=bD (show 0<=g.D*g.Z by omega);rw[hn];have J:Ext h5 (h5.new (.cells (gL g) 23)):=Ar.new _ _;generalize h5.new (.cells (gL g) 23)=h6 at J⊢;have H:=J.hb t;have cc:N3 (N3 (N3 (fun _=>-1) 0 ((0:Nat)*g.Z)) 1 ((1:Nat)*g.Z)) 2 ((2:Nat)*g.Z)=Sh g:=by
  unfold Sh;rw[show(((0:Nat):Int))*g.Z=0 from Int.zero_mul _,show(((1:Nat):Int))*g.Z=g.Z from Int.one_mul _];rfl
 have co:N3 (N3 (N3 (fun _=>-1) 0 ((0:Nat)*g.Z+1)) 1 ((1:Nat)*g.Z+1)) 2 ((2:Nat)*g.Z+1)=Sc g:=by
  unfold Sc;rw[show(((0:Nat):Int))*g.Z=0 from Int.zero_mul _,show(((1:Nat):Int))*g.Z=g.Z from Int.one_mul _];rfl
 rw[cc,co]at G;have M6:=(M5.ext t J).less (F':=fun i=>i<L\/i=b\/i=ml\/i=ll\/i=ar) fun j hj=>Or.inl hj
 refine A74 (S0:=Mi.new g) (cur:=Sh g) (Cr:=Sc g) (h0:=h6) A hK hd (n:=n) (by omega) U (fun _=>rfl) (K'+4) 0 h6 (by omega) (by omega) M6 H (J.at t G) (Ar.refl _) fun h7 M7 k7 ag=>?_
 have ca:Ar (fun j=>j=ar) h2 h6:=c5.trans (Ext.to J);have kp:∀i o,i<ar->(i<L\/i=b\/i=ml\/i=ll)->h.get i=some o->h7.get i=some o:=fun i o f hf e=>k7.at H (ca.at p (P.at hb e) (by show ¬i=ar;omega)) (by
  rcases hf with y|y|y|y
  ·exact .inl y
  ·exact .inr (.inl y)
  ·exact .inr (.inr (.inl y))
  ·exact .inr (.inr (.inr (.inl y))))
 refine T h7 ar hL ?_ (k7.at H (J.at t G) U) ⟨kp _ _ l3 (.inr (.inl rfl)) mp.map,kp _ _ l4 (.inr (.inr (.inl rfl))) mp.row,kp _ _ l5 (.inr (.inr (.inr rfl))) mp.live,mp.len,mp.ok⟩ ?_ ag
 ·show Da h7 m ((Mi.new g).Ajo (Sh g) (Sc g) (g.D*g.Z).toNat) _
  rw[hn];exact M7
 ·refine(Ext.kf P).trans ((ca.mono fun i f y=>?_).trans (k7.less fun i f=>.inl f))
  have y:i<L:=y;have f:i=ar:=f;omega
theorem Co.Bhs(a:rtB g=true):(Co.start g).Wf:=by
 have s:=Zf a;have n:=Bm6 a;have:=s.d0;have:=s.p0;have:=s.z0;have:=s.s0;obtain⟨_,e2,e3⟩:=Aea (Sh g) (Sc g) (Mi.new g) (g.D*g.Z).toNat;have e:(Co.start g).S.g=g:=e2;have d0:=Agm s (i:=0) (k:=0) (by omega) (by omega) (by omega);have d1:=Agm s (i:=1) (k:=0) (by omega) (by omega) (by omega);have d2:=Agm s (i:=2) (k:=0) (by omega) (by omega) (by omega);have o0:=Agm s (i:=0) (k:=1) (by omega) (by omega) (by omega);have o1:=Agm s (i:=1) (k:=1) (by omega) (by omega) (by omega);have f:=Agm s (i:=2) (k:=1) (by omega) (by omega) (by omega);refine⟨by rw[e];exact a,⟨fun i j=>.inr ?_,fun i j=>.inr ?_⟩,?_⟩
 ·rw[e]
  rcases(show i=0\/i=1\/i=2 by omega)with rfl|rfl|rfl
  ·rw[<-d0];congr 1;show(0:Int)=_;omega
  ·rw[<-d1];congr 1;show g.Z=_;omega
  ·rw[<-d2];congr 1;show 2*g.Z=_;omega
 ·rw[e]
  rcases(show i=0\/i=1\/i=2 by omega)with rfl|rfl|rfl
  ·rw[<-o0];congr 1;show(1:Int)=_;omega
  ·rw[<-o1];congr 1;show g.Z+1=_;omega
  ·rw[<-f];congr 1
 ·show 0<(Co.start g).S.dr.dv.size
  rw[show(Co.start g).S.dr=(Mi.new g).dr from e3];show 0<g.S.toNat;omega
theorem A2l(A:Ca disp)(hK:10000<K)(hd:9<=d)(g:Gm)(hb:HB h):Ok (Ag TT disp K d false 11 [gV g] h) fun v h'=>Kf (fun i=>i<h.next) h h'/\HB h' /\
 if rtB g=true/\g.D*g.Z<=64 then ∃B,v=.ptr B.c 0/\Eb h' B (Co.start g) (fun i=>i<h.next)/\h.next<=B.c else v=.Cl:=by
 obtain⟨e,rfl⟩:∃k,d=k+1:=⟨d-1,by omega⟩;rw[Ae0 A (by omega)];simp only[Xa,gV,Aa];have x1:Ext h (h.new (.cells (gL g) 23)):=Ar.new _ _;have g1:(h.new (.cells (gL g) 23)).get h.next=some (.cells (gL g) 23):=Ac _ _
 have n1:(h.new (.cells (gL g) 23)).next=h.next+1:=rfl
 generalize h.new (.cells (gL g) 23)=h1 at x1 g1 n1⊢;have ad:=x1.hb hb;rw[C8 g1 rfl,Am (n:=6) rfl]
 try simp only[Aa]
 rw[show EV.agg (gL g)=gV g from rfl];refine(Bev g (by omega) h1).Ap ?_;rintro _ h3 ⟨rfl,x3⟩;have t:=x3.hb ad;have T:Ext h h3:=x1.trans x3;have bw:Fj (.tuple []) false=false/\Fj (.tuple []) true=false:=⟨rfl,rfl⟩;cases hr:rtB g with
 | false=>
  simp only[Aa,Ad,H3];exact .ret ⟨Ext.kf T,t,by rw[aK (fun y=>by cases y.1)]⟩
 | true=>
 have s:=Zf hr;have:=s.d0;have:=s.d1;have:=s.z0;have:=s.z1;have:=s.s0;have:=s.s1;have:=s.o0;have:=s.o1;obtain⟨m0,m1⟩:=N1 (a:=g.D) (b:=g.Z) (A:=8) (B:=64) (by omega) (by omega) (by omega) (by omega);have m2:3<=g.D*g.Z:=by
  have:3*1<=g.D*g.Z:=Int.mul_le_mul (by omega) (by omega) (by omega) (by omega);omega
 have E:=x3.at ad g1;simp only[Aa,Ad,Cy E rfl,gL,I];rw[Cn (by omega) (by omega)];by_cases af:64<g.D*g.Z
 ·simp only[af,aB,Aa,Ad,H3]
  exact .ret ⟨Ext.kf T,t,by rw[aK (fun y=>by omega)]⟩
 simp only[af,aA,Aa,Ad,H3,Rz,Aw];have l3:=t _ _ E;rw[Ah l3 (by kernel_rfl),C8 E rfl,Am (n:=6) rfl]
 try simp only[Aa,Aw]
 rw[show EV.agg (gL g)=gV g from rfl];refine Ok.Ds (by kernel_rfl) (by kernel_rfl) (P:=fun v h'=>v=I (g.D*g.Z)/\Ext h3.lift h') ⟨_,_,Lh s _,rfl,Ar.new _ _⟩ (fun _ _ p=>p.2) ?_;rintro _ _ h4 ⟨rfl,_⟩ _ x4;have U:=x4.hb t;have W:=x4.at t E;rw[Ah l3 (by kernel_rfl),Aj W rfl (v:=I g.S) rfl]
 try simp only[Aa,Aw]
 rw[Ah l3 (by kernel_rfl),Aj W rfl (v:=I g.O) rfl]
 try simp only[Aa,Aw]
 have ay:Anm (g.D*g.Z) g.S g.O=true:=by
  unfold Anm;rw[N2.2 ⟨by omega,by omega⟩,N2.2 ⟨by omega,by omega⟩,N2.2 ⟨by omega,by omega⟩];rfl
 refine Ok.Ds (by kernel_rfl) (by kernel_rfl) (A3x (K:=K) ay (by omega) (Du U)) (fun _ _ p=>by obtain⟨_,_,_,_,_,_,x,_⟩:=p;exact x) ?_;rintro _ bx h5 ⟨D,V,M,az,z,rfl,_,_,dr,nd⟩ sm x5;have u:=x5.hb U;have dr:=dr.ext (h':=h5) fun i o g=>by rw[sm.get];exact g
 have Y:=x5.at U W;have bz:h4.lift.next=h4.next:=rfl
 simp only[Aa,I,Ad,aD,aA,R8,Aw];have l5:=u _ _ Y;rw[Ah l5 (by kernel_rfl),C8 Y rfl,Am (n:=6) rfl]
 try simp only[Aa,Aw]
 rw[Ji (v:=Wc) (by kernel_rfl) (by kernel_rfl) rfl];have a1:Ah0 h5.lift D V M az (g.D*g.Z).toNat z (fun _=>0) g.S g.O 0 false .Ao .Ao [] (fun _=>Zn.empty):=dr.ext fun i o g=>by rw[By];exact g
 rw[show EV.agg (gL g)=gV g from rfl];refine Ok.Ds (by kernel_rfl) (by kernel_rfl) (A0h (K:=K) (g:=g) (by omega) (Du u) a1) (fun _ _ p=>p.1) ?_;rintro v a2 h6 ⟨_,_,hv⟩ a6 x6;have G:=x6.hb u;rw[aN ⟨hr,by omega,rfl⟩]at hv;obtain⟨m,p,bl,ql,q,c,rfl,MA,PA,nm⟩:=hv;have k6:∀i o,a2.get i=some o->h6.get i=some o:=fun i o g=>by rw[a6.get];exact g
 have t1:=x1.next;have t3:=x3.next;have t4:=x4.next;have t5:=x5.next;have t6:=x6.next
 have cc:h5.lift.next=h5.next:=rfl
 have M6:=Bmm s (h0:=h4) G (dr.ext fun i o g=>x6.at u g) ⟨⟨by omega,by omega⟩,by omega,by omega,nd.2.2.2⟩ (MA.ext k6) (PA.ext k6) ⟨⟨by omega,by omega⟩,by omega,by omega,fun d hd=>by have:=nm.2.2.2 d hd;omega⟩ (by omega);have ah:=x6.at u Y;simp only[Aa,I,Ad];rw[C8 ah rfl,Am (n:=6) rfl]
 try simp only[Aa]
 rw[show EV.agg (gL g)=gV g from rfl];refine(A2g (K:=K) hr G).Ap ?_;rintro _ h7 ⟨b,ml,ll,rfl,mp,x7,H,lb,ch,cl⟩;simp only[Aa,I,Ad,aD,aA,Ss];have cm:=H _ _ mp.map;have ct:=H _ _ mp.row;have cx:=H _ _ mp.live;have M7:Da h7 m (Mi.new g) (fun i=>i<h4.next\/i=b\/i=ml\/i=ll):=(M6.ext G x7).less fun i f=>by
  rcases f with f|f|f|f
  ·exact .inl f
  ·exact .inr ⟨by omega,by omega⟩
  ·exact .inr ⟨by omega,by omega⟩
  ·exact .inr ⟨by omega,by omega⟩
 have ba:Ext h h7:=(((T.trans x4).trans x5).trans x6).trans x7;refine A67 (K:=K) A hK (d:=e) (by omega) hr H (v1:=h.next) (L:=h4.next) (x7.at G ah) mp ⟨by omega,by omega,by omega⟩ M7 (by omega) fun C ar c0 M8 ai J k8 j=>?_
 simp only[Gr,dr];rw[Az (l:=[I 0,I 1,I 1]) rfl]
 try simp only[Aa]
 rw[A5g,Au];have x9:Ext C ((C.new (.cells [I 0,I 1,I 1] 104)).new (.cells [.ptr m 0,.ptr ar 0,.ptr b 0,I 0,I 1,I 1,.bool false] 130)):=(Ar.new _ _).Di _;have g9:((C.new (.cells [I 0,I 1,I 1] 104)).new (.cells [.ptr m 0,.ptr ar 0,.ptr b 0,I 0,I 1,I 1,.bool false] 130)).get (C.next+1)=some (.cells [.ptr m 0,.ptr ar 0,.ptr b 0,I 0,I 1,I 1,.bool false] 130):=Ac _ _;generalize (C.new (.cells [I 0,I 1,I 1] 104)).new (.cells [.ptr m 0,.ptr ar 0,.ptr b 0,I 0,I 1,I 1,.bool false] 130)=h9 at x9 g9⊢;have aa:=x9.hb j;have l9:=aa _ _ g9;have e2:(Co.start g).S.g=g:=(Aea (Sh g) (Sc g) (Mi.new g) (g.D*g.Z).toNat).2.1;have c8:=j _ _ ai;have c9:=j _ _ J.map;have da:=j _ _ J.row;have db:=j _ _ J.live;have t8:=k8.next
 have M9:=M8.ext j x9;refine .ret ⟨?_,aa,?_⟩
 ·exact(Ext.kf ba).trans ((k8.trans (Ext.kf x9)).mono fun i f y=>f (by have y:i<h.next:=y;show i<h4.next;omega))
 ·rw[aN ⟨trivial,by omega⟩]
  refine⟨⟨C.next+1,ar,m,b,ml,ll⟩,rfl,⟨M9.less fun i f=>?_,g9,x9.at j ai,?_,Co.Bhs hr,fun i f y=>?_,aa⟩,?_⟩
  ·rcases f with f|f|f|f|f|f
   ·exact .inl (.inl (show i<h4.next by have f:i<h.next:=f;omega))
   ·exact .inr ⟨by have f:i=C.next+1:=f;omega,by have f:i=C.next+1:=f;omega⟩
   ·exact .inl (.inr (.inr (.inr (.inr f))))
   ·exact .inl (.inr (.inl f))
   ·exact .inl (.inr (.inr (.inl f)))
   ·exact .inl (.inr (.inr (.inr (.inl f))))
  ·show Q0 h9 b ml ll (Co.start g).S.g _
   rw[e2];exact J.ext fun i o g=>x9.at j g
  ·have f:i<h.next:=f
   rcases y with y|y|y|y|y
   ·have y:i=C.next+1:=y;omega
   ·have y:i=ar:=y;omega
   ·have y:i=b:=y;omega
   ·have y:i=ml:=y;omega
   ·have y:i=ll:=y;omega
  ·show h.next<=C.next+1
   omega
def z8(b:Nat):EV:=.int .u8 (Int.ofNat b)
theorem A9z{v2 v3:Nat}(n23:v2≠v3):∀(m i:Nat) (h:Ab),32-i<m->i<=32->HB h->h.get v2=some (.cells (List.replicate 32 (z8 0)) 85)->h.get v3=some (.cells (List.replicate i (z8 b)++List.replicate (32-i) (z8 0)) 85) ->
 Ok (Um K m (z8 b) (.ptr v2 0) (.ptr v3 0) (I i) h) fun v h'=>v=.agg (List.replicate 32 (z8 b))/\Ar (fun j=>j=v2\/j=v3) h h'/\HB h':=by
 intro m;induction m with
 | zero=>intro i h hm;omega
 | succ m u=>
  intro i h hm y hb a e;rw[Um];simp only[I,Ad,Aa];by_cases f:i<32
  ·have:decide ((i:Int)<32)=true:=by simp;omega
   simp only[this,Aa,Aq3];rw[Z6 f];simp only[Aa,bc];have q:=hb _ _ e;refine Ok.Zl e rfl rfl (by simp;omega) ?_;simp only[Aqu,Ad];rw[Cn (by omega) (by omega),show((i:Nat):Int)+1=((i+1:Nat):Int) by omega];have x:((List.replicate i (z8 b)++List.replicate (32-i) (z8 0)).set i (z8 b))=List.replicate (i+1) (z8 b)++List.replicate (32-(i+1)) (z8 0):=by
    rw[eH _ _ (by simp),bT,fH,show 32-i=(32-(i+1))+1 by omega,eB,List.set_cons_zero,List.replicate_succ',br];rfl
   rw[x];refine(u (i+1) _ (by omega) (by omega) (hb.put q _) (by rw[Af _ (cN n23)];exact a) (Ae _ _ _)).mono ?_;rintro v h' ⟨rfl,c,k⟩;exact⟨rfl,((Ar.refl (S:=fun j=>j=v2\/j=v3) h).Ak (.inl (.inr rfl)) q _).trans c,k⟩
  ·have:decide ((i:Int)<32)=false:=by simp;omega
   have p:i=32:=by omega
   subst p;simp only[this,Aa,Aqv];rw[C8 e rfl,Am (n:=32) (by simp)];simp only[Aa];have t:=hb _ _ a;refine Ok.st (List.replicate 32 (z8 b)) a rfl rfl (Bm rfl) ?_;rw[Vi (Ae _ _ _) Ap3.1 Ap3.2 rfl];exact .ret ⟨rfl,(Ar.refl (S:=fun j=>j=v2\/j=v3) h).Ak (.inl (.inl rfl)) t _,hb.put t _⟩
theorem Bg2(n:100<K)(b:Nat)(hb:HB h):Ok (Ak6 K (z8 b) h) fun v h'=>v=.agg (Bc (List.replicate 32 b))/\Ext h h'/\HB h':=by
 simp only[Ak6,Aa];rw[show(h.new (.cells (List.replicate 32 (EV.int .u8 0)) 85)).next=h.next+1 from rfl];have f:Ext h ((h.new (.cells (List.replicate 32 (EV.int .u8 0)) 85)).new (.cells (List.replicate 32 (EV.int .u8 0)) 85)):=(Ar.new _ _).Di _;have j:((h.new (.cells (List.replicate 32 (EV.int .u8 0)) 85)).new (.cells (List.replicate 32 (EV.int .u8 0)) 85)).get h.next=some (.cells (List.replicate 32 (z8 0)) 85):=by
  rw[Ay _ (aE _)];exact Ac _ _
 have k:((h.new (.cells (List.replicate 32 (EV.int .u8 0)) 85)).new (.cells (List.replicate 32 (EV.int .u8 0)) 85)).get (h.next+1)=some (.cells (List.replicate 0 (z8 b)++List.replicate (32-0) (z8 0)) 85):=Ac _ _;refine(A9z (K:=K) (b:=b) (v2:=h.next) (v3:=h.next+1) (by omega) K 0 _ (by omega) (by omega) (f.hb hb) j k).mono ?_;rintro v h' ⟨rfl,c,a⟩;refine⟨?_,f.then c fun i e p=>?_,a⟩
 ·unfold Bc;rw[fJ];rfl
 ·rcases e with e|e<;>omega
structure A0i(h:Ab)(v:EV)(b:Nat)(L:List Int):Prop where
 row:(L = []/\lenOf v=some 0)\/∃off r op,v=.slice b off L.length r op/\∀j (hj:j<L.length) (k:EV->R),Dr (.ptr b (off+j)) h k=k (I L[j])
theorem A0i.frame(r:A0i h v b L)(e:0<L.length->h'.get b=h.get b):A0i h' v b L:=by
 refine⟨?_⟩;rcases r.row with y|⟨off,a,op,rfl,y⟩
 ·exact .inl y
 ·refine .inr ⟨off,a,op,rfl,fun j hj k=>?_⟩
  have:=y j hj k;show oB _ (Aon (h'.get b) _ 1)=_;rw[e (by omega)];exact this
theorem A0i.Hz(r:A0i h v b L)(k:EV->R):Ev.Hz v k=k (I L.length):=by
 rcases r.row with⟨rfl,y⟩|⟨off,a,op,rfl,_⟩
 ·unfold Ev.Hz;rw[y];rfl
 ·rfl
theorem A0i.at(r:A0i h v b L){j:Nat}(hj:j<L.length)(k:EV->R):X8 1 v (.int .i64 (j:Int)) (fun p=>Dr p h k)=k (I L[j]):=by
 rcases r.row with⟨rfl,_⟩|⟨off,a,op,rfl,y⟩
 ·exact absurd hj (cT _)
 ·rw[Mg hj,bc];exact y j hj k
structure Ab2 where
 kind:Int
 x:Int
 y:Int
 bl:EV
 bq:Nat
 bs:List Int
 ev:Lq
def Ab2.cells(o:Ab2):List EV:=[I o.kind,I o.x,I o.y,o.bl]++o.ev.cells
structure Ab2.At(h:Ab)(o:Ab2):Prop where
 row:A0i h o.bl o.bq o.bs
 ev:o.ev.Wf
 pl:o.bl.plain=true/\o.bl.cells = [o.bl]
theorem Ab2.len {o:Ab2}(w:o.ev.Wf):o.cells.length=72:=by
 unfold Ab2.cells;rw[aF,Lq.Bk w];rfl
def wb(n:Int):Nat:=(n%256).toNat
theorem Bpu(n:Int):wb n<256:=by unfold wb;omega
theorem Bmr(n:Int):Cx .u8 (Cx .i64 n)=Int.ofNat (wb n):=by
 rw[Ly,Ly];unfold wb;have a:IntKind.u8.wrap (IntKind.i64.wrap n)=(IntKind.i64.wrap n)%256:=rfl;have h2:(IntKind.i64.wrap n)%256=n%256:=by
  simp only[IntKind.wrap,IntKind.bits,IntKind.signed,aZ,bE];split<;>omega
 rw[a,h2];show _=(((n%256).toNat:Nat):Int);omega
def wrL(x:Int)(bs:List Int)(i:Nat):Wr:=⟨bs.getD i 0,List.replicate 32 (wb (x+i))⟩
def wrs(x:Int)(bs:List Int):List Wr:=(List.range bs.length).map (wrL x bs)
theorem A9s(x:Int)(bs:List Int)(i:Nat):(wrL x bs i).Wf:=⟨bT,fun b hb=>by rw[bZ hb];exact Bpu _⟩
theorem Apu(x:Int)(bs:List Int):(wrs x bs).length=bs.length:=by unfold wrs;simp
theorem Bnn(a:Int){bl:List Nat}(e:bl.length=32):Aaq (D5 [(0,1),(1,32)]) [(0,I a),(1,.agg (Bc bl))] ([EV.int .i64 0]++List.replicate 32 (.int .u8 0))=some (⟨a,bl⟩:Wr).cells:=by
 have hs:=Aje [I a] (List.replicate 32 (EV.int .u8 0)) (Bc bl) (by rw[Bi,e];simp);rw[<-Ui]at hs;show Bb (Nat.beq (F9 (Bc bl)) 32) (oB (fun z=>some z) (Mf ([I a]++List.replicate 32 (EV.int .u8 0)) 1 (Bc bl))) none=_;rw[Bf,Bi,e,cI,Al];rw[show(1:Nat) = [I a].length from rfl,hs];rfl
theorem Blw {L:List Wr}(w:∀x∈L,x.Wf):∀x∈L.map Wr.cells,x.length=33:=fun x a=>by
 obtain⟨y,e,rfl⟩:=cJ.1 a;exact Wr.len (w y e)
theorem Bh9(x:Int)(bs:List Int)(a:i<bs.length):((List.range (i+1)).map (wrL x bs)).map Wr.cells=((List.range i).map (wrL x bs)).map Wr.cells++[(wrL x bs i).cells]:=by
 rw[cz,cB,cB];rfl
theorem A5n(T:1000<K){o:Ab2}(U:o.bs.length<=1048576):∀(f i:Nat) (h:Ab) (s:EV) (q:Nat),o.bs.length-i<f->i<=o.bs.length->HB h->Ext h0 h->h.get v1=some (.cells o.cells 34)->v1<h0.next->(0<o.bs.length->o.bq<h0.next)->A0i h o.bl o.bq o.bs->Ci h s q 112 33 i (((List.range i).map (wrL o.x o.bs)).map Wr.cells).flatten->(0<i->h0.next<=q) ->
 Ok (Fy K f (.ptr v1 0) s o.bl (I o.bs.length) (I i) h) fun v h'=>∃q,Au4 h' v q (wrs o.x o.bs)/\Ext h0 h'/\HB h'/\(0<o.bs.length->h0.next<=q/\q<h'.next):=by
 intro f;induction f with
 | zero=>intro i h s q M;omega
 | succ f O=>
  intro i h s q M V hb p E l1 C G row lq;rw[Fy];simp only[I,Ad];by_cases a:i<o.bs.length
  ·have:decide ((i:Int)<(o.bs.length:Int))=true:=by simp;omega
   simp only[this,Aa,Rk];rw[G.at a];have P:∀k:EV->R,Dr (.ptr v1 1) h k=k (I o.x):=fun k=>Aj E rfl rfl
   simp only[Aa,P,I,Ad,A06];rw[Bmr];refine(Bg2 (K:=K) (by omega) (wb (o.x+i)) hb).Ap ?_;rintro _ h2 ⟨rfl,D,t⟩;rw[show EV.int .i64 o.bs[i]=I o.bs[i]from rfl,Az (Bnn _ (by simp))];have wf:=A9s o.x o.bs i;have S:(⟨o.bs[i],List.replicate 32 (wb (o.x+i))⟩:Wr)=wrL o.x o.bs i:=by
    unfold wrL;rw[show o.bs.getD i 0=o.bs[i] by rw[List.getD,aH a];rfl]
   rw[S];have u:=row.frame (h':=h2) fun y=>D.get _ (hb _ _ (row.block y)) id
   refine N9 u t rfl (by simp) (Wr.len wf) (by omega) (by omega) ?_;intro H A n3 c3;simp only[Rb,Ad];rw[Cn (by omega) (by omega),show((i:Nat):Int)+1=((i+1:Nat):Int) by omega];have c:Ar (fun j=>0<i/\j=q) h H:=(Ext.to D).trans c3;have t0:=p.next
   have t2:=D.next
   refine O (i+1) H _ (h2.next+1) (by omega) (by omega) (c3.hb t) (p.then c fun j hj y=>?_) (c.at hb E fun y=>?_) l1 C (G.frame fun y=>c.get _ (by have:=C y;omega) fun z=>?_) ?_ (fun _=>by omega)
   ·have:=lq hj.1;have:=hj.2;omega
   ·have:=lq y.1;have:=y.2;omega
   ·have:=lq z.1;have:=z.2;have:=C y;omega
   ·rw[Bh9 _ _ a,cy,show([(wrL o.x o.bs i).cells]).flatten=(wrL o.x o.bs i).cells from cR _]
    exact A
  ·have:i=o.bs.length:=by omega
   subst this;simp only[Int.lt_irrefl,aA,Aa,Rl];have e:∀w∈wrs o.x o.bs,w.Wf:=fun w hw=>by unfold wrs at hw;obtain⟨i,_,rfl⟩:=cJ.1 hw;exact A9s _ _ _
   rcases dS o.bs.length with y|y
   ·have e0:wrs o.x o.bs = []:=dY (by rw[Apu,y])
    rcases row with⟨_,_,rfl|⟨b,rfl⟩⟩|⟨z,_⟩
    ·exact .ret ⟨0,⟨.inl ⟨rfl,e0⟩,e⟩,p,hb,fun z=>by omega⟩
    ·exact .ret ⟨b,⟨.inr ⟨0,0,false,by rw[Apu,y],fun j hj=>by rw[Apu]at hj;omega⟩,e⟩,p,hb,fun z=>by omega⟩
    ·omega
   ·refine .ret ⟨q,⟨?_,e⟩,p,hb,fun y=>⟨lq y,hb _ _ (row.block y)⟩⟩
    ·refine .inr ⟨0,o.bs.length,true,by rw[Apu];exact row.slice y,fun j hj k=>?_⟩
     rw[bC];refine Dj (row.block y) rfl ?_;have:=A09 (n:=33) (l:=(wrs o.x o.bs).map Wr.cells) (Blw fun x J=>by unfold wrs at J;obtain⟨i,_,rfl⟩:=cJ.1 J;exact A9s _ _ _) (j:=j) (by rw[bU];exact hj);rw[List.getElem_map]at this;exact this
variable {o:Ab2}
def Mi.evs(S:Mi):Nat:=S.dr.ev.length+S.dr.P8.length
structure Bkp(h h':Ab)(B:Cb)(X:Co)(F:Nat->Prop)(Y:Co):Prop where
 C:Eb h' B Y F
 k:Kf F h h'
 g:Y.S.g=X.S.g
 ev:Y.S.evs<=X.S.evs+1
theorem Hc.Bmb{Y:Co}(c:Hc h h' B X F Y):Bkp h h' B X F Y:=⟨c.C,c.k,c.ck.g,by show Y.S.dr.ev.length+Y.S.dr.P8.length<=_;rw[c.ck.dr.ev];exact Nat.le_succ _⟩
theorem Bh0(A:Ca disp)(f:disp 105=some A55)(n:10000<K){S:Mi}(M:Da h m S F)(hb:HB h){e:Lq}(w:e.Wf)(t:S.evs<=199):
 ∃D,Bx K (.ptr m 0) h=some (.ptr D 0,h)/\∀{d:Nat},2<=d->Ok (Ag TT disp K d false 46 [.ptr D 0,.agg e.cells] h) fun _ h'=>∃l:List Lq,l.length<=S.dr.ev.length+1/\Da h' m { S with dr:={ S.dr with ev:=l } } F/\Kf F h h'/\HB h':=by
 obtain⟨lt,D,p,bl,ql,np,q,c,G,a⟩:=M.s;refine⟨D,Aca a.Iv,fun hd=>?_⟩;refine(A54 A f n hd a.drv hb w t).mono ?_;rintro _ h' ⟨l,j,u,x,k⟩;obtain⟨y,C⟩:=M.drv hb a u x;exact⟨l,j,y,C,k⟩
theorem Eb.Bkv(C:Eb h B X F){l:List Lq}(f:l.length<=X.S.dr.ev.length+1)(e:Da h' B.m { X.S with dr:={ X.S.dr with ev:=l } } (B.fr F))(k:Kf (B.fr F) h h')(a:HB h'):Bkp h h' B X F { X with S:={ X.S with dr:={ X.S.dr with ev:=l } } }:=by
 refine⟨⟨e,k.at C.hb C.core (.inr (.inl rfl)),k.at C.hb C.ar (.inr (.inr (.inl rfl))),?_,⟨C.wf.rt,C.wf.an.of rfl,C.wf.sz⟩,C.out,a⟩,k.less fun _=>.inl,rfl,?_⟩
 ·exact C.map.frame (k.get _ (C.hb _ _ C.map.map) fun y=>y (.inr (.inr (.inr (.inl rfl))))) (k.get _ (C.hb _ _ C.map.row) fun y=>y (.inr (.inr (.inr (.inr (.inl rfl)))))) (k.get _ (C.hb _ _ C.map.live) fun y=>y (.inr (.inr (.inr (.inr (.inr rfl))))))
 ·show l.length+X.S.dr.P8.length<=X.S.dr.ev.length+X.S.dr.P8.length+1
  omega
theorem Bbi(a:h.get v1=some (.cells o.cells 34))(k:EV->R):Dr (.ptr v1 0) h k=k (I o.kind)/\Dr (.ptr v1 1) h k=k (I o.x)/\Dr (.ptr v1 2) h k=k (I o.y)/\Dr (.ptr v1 3) h k=k o.bl:=⟨Aj a rfl rfl,Aj a rfl rfl,Aj a rfl rfl,Aj a rfl rfl⟩
theorem Bn0(w:o.ev.Wf):Mh o.cells 4 68=some o.ev.cells:=by
 have e:o.cells = [I o.kind,I o.x,I o.y,o.bl]++o.ev.cells:=rfl;rw[e,Fc (by rw[aF,Lq.Bk w];exact aC _),show(4:Nat) = [I o.kind,I o.x,I o.y,o.bl].length from rfl,dE,<-Lq.Bk w,cM]
theorem Blq(A:Ca disp)(n:disp 105=some A55)(hK:3000000<K)(C:Eb h B X F)(O:o.At h)(G:o.bs.length<=1048576)(Z:0<o.bs.length->F o.bq)(hv:X.S.evs<=199)(rx:Tk o.x)(hd:31<=d):
 Ok (Ag TT disp K d false 12 [.agg o.cells,.ptr B.c 0] h) fun v h'=>∃(e:Int) (Y:Co),v=I e/\Bkp h h' B X F Y:=by
 obtain⟨e,rfl⟩:∃k,d=k+1:=⟨d-1,by omega⟩;rw[Aid A (by omega)];simp only[Abf,Aa];have ol:=Ab2.len O.ev;have H:Ext h (h.new (.cells o.cells 34)):=Ar.new _ _;have j:(h.new (.cells o.cells 34)).get h.next=some (.cells o.cells 34):=Ac _ _
 have n1:(h.new (.cells o.cells 34)).next=h.next+1:=rfl
 generalize h.new (.cells o.cells 34)=f at H j n1⊢;have c1:=C.toE H;have e0:∀k:EV->R,Dr (.ptr h.next 0) f k=k (I o.kind):=fun k=>(Bbi j k).1
 have e1:∀k:EV->R,Dr (.ptr h.next 1) f k=k (I o.x):=fun k=>(Bbi j k).2.1
 have e2:∀k:EV->R,Dr (.ptr h.next 2) f k=k (I o.y):=fun k=>(Bbi j k).2.2.1
 have fin:∀{x:R},Fe x f B X F->Ok (Ap x fun v h=>some (v,h)) fun v h'=>∃(e:Int) (Y:Co),v=I e/\Bkp h h' B X F Y:=fun a=>by
  refine Ok.Ap a ?_;rintro _ h' ⟨e,Y,rfl,c⟩;exact .ret ⟨e,Y,rfl,(c1.trans c).Bmb⟩
 rw[e0];simp only[I,Ad];by_cases k1:o.kind=1
 ·simp only[k1,aB,Aa]
  rw[Dj j rfl (Am ol)];simp only[Oa,Aa];have u:Ext f (f.new (.cells o.cells 34)):=Ar.new _ _;have J:(f.new (.cells o.cells 34)).get f.next=some (.cells o.cells 34):=Ac _ _
  have n2:(f.new (.cells o.cells 34)).next=f.next+1:=rfl
  generalize f.new (.cells o.cells 34)=h2 at u J n2⊢;have P:=u.hb c1.hb;rw[(Bbi J _).2.2.2];have R1:=O.row.frame (h':=h2) fun y=>by
   have l:=C.M.lt _ (.inl (Z y));rw[u.get _ (by omega) id,H.get _ l id]
  rw[R1.Hz];refine Ok.Ap (A5n (K:=K) (by omega) G K 0 h2 .Ao 0 (by omega) (by omega) P (Ar.refl h2) J (by omega) (fun y=>by have l:=C.M.lt _ (.inl (Z y));omega) R1 (Ci.nil _ _ _ _) (fun y=>by omega)) ?_;rintro v h3 ⟨q,W,E,ax,lq⟩;have t:=u.trans E;have C3:Eb h3 B X (fun i=>F i\/(0<(wrs o.x o.bs).length/\i=q)):=(c1.C.ext t).less fun i T=>by
   rcases T with T|⟨y,rfl⟩
   ·exact .inl T
   ·rw[Apu]at y
    have:=lq y;exact .inr ⟨by omega,this.2⟩
  refine Ok.Ap (A0n A hK (F:=fun i=>F i\/(0<(wrs o.x o.bs).length/\i=q)) (fun y=>.inr ⟨y,rfl⟩) (by rw[Apu];omega) (d:=e) (by omega) C3 W) ?_;rintro _ h4 ⟨e4,Y,rfl,c4⟩;have c4:=c4.less (F:=F) fun i=>.inl
  exact .ret ⟨e4,Y,rfl,((c1.trans (c1.C.toE t)).trans c4).Bmb⟩
 simp only[k1,aA,Aa];by_cases k2:o.kind=2
 ·simp only[k2,aB,Aa]
  rw[e1,e2];exact fin (A3m A (by omega) c1.C (d:=e) (by omega) _ _)
 simp only[k2,aA,Aa];by_cases k3:o.kind=3
 ·simp only[k3,aB,Aa]
  rw[e1];refine Ok.Ap (A3b A (by omega) c1.C (d:=e) (by omega) _) ?_;rintro _ h2 ⟨bl,e4,Y,rfl,U,c2⟩;simp only[Aa];refine Ok.stW (Ac _ _) (by simp) (by rw[Bi,U]) ?_;have E:Ext h2 ((h2.new (.cells (List.replicate 32 (EV.int .u8 0)) 85)).put h2.next (.cells (Bc bl) 85)):=(Ar.new h2 _:Ext _ _).Ak (.inr (aC _)) (aE _) _;generalize (h2.new (.cells (List.replicate 32 (EV.int .u8 0)) 85)).put h2.next (.cells (Bc bl) 85)=h3 at E⊢
  have c2:=c1.trans c2;exact .ret ⟨e4,Y,rfl,(c2.trans (c2.C.toE E)).Bmb⟩
 simp only[k3,aA,Aa];by_cases k4:o.kind=4
 ·simp only[k4,aB,Aa]
  rw[e1];exact fin (Atv A (by omega) c1.C (d:=e) (by omega) _)
 simp only[k4,aA,Aa];by_cases k5:o.kind=5
 ·simp only[k5,aB,Aa]
  exact fin (A0f A (by omega) c1.C (d:=e) (by omega))
 simp only[k5,aA,Aa];by_cases k6:o.kind=6
 ·simp only[k6,aB,Aa]
  exact fin (Z9 A (by omega) c1.C (d:=e) (by omega))
 simp only[k6,aA,Aa];by_cases k7:o.kind=7
 ·simp only[k7,aB,Aa]
  rw[e1];exact fin (A05 A (by omega) c1.C (d:=e) (by omega) rx)
 simp only[k7,aA,Aa];by_cases k8:o.kind=8
 ·simp only[k8,aB,Aa]
  rw[e1];exact fin (Bb4 A (by omega) c1.C (d:=e) (by omega) _)
 simp only[k8,aA,Aa];by_cases k9:o.kind=9
 ·simp only[k9,aB,Aa,Aw]
  have l1:=c1.hb _ _ j;rw[Ji (v:=.ptr B.m 0) (by kernel_rfl) (by kernel_rfl) (by simp only[Ll,Aa];rw[c1.C.lift.ldM])];obtain⟨D,dd,dp⟩:=Bh0 (K:=K) A n (by omega) c1.C.lift.M c1.C.lift.hb O.ev hv;rw[Ji (by kernel_rfl) (by kernel_rfl) dd]
  try simp only[Aa,Aw]
  rw[Ah (show h.next<f.next by omega) (by kernel_rfl),Dj j rfl (Bn0 O.ev)]
  try simp only[Aa,Aw]
  refine Ok.Yh (S:=fun i=>¬B.fr F i) (by kernel_rfl) (by kernel_rfl) (fun _=>by kernel_rfl) (dp (d:=e) (by omega)) (fun _ _ p=>by obtain⟨_,_,_,a,_⟩:=p;exact a) ?_;rintro _ az h2 s' ⟨l,G,M',_,V⟩ sm ch a6;simp only[Ot,dr];have p:=c1.C.Bkv G (M'.same sm) ch (sm.hb V);exact .ret ⟨0,_,rfl,p.C,c1.k.trans p.k,p.g,p.ev⟩
 simp only[k9,aA,Aa,Ot];exact .ret ⟨0,X,rfl,c1.Bmb⟩
end Go.Ev
