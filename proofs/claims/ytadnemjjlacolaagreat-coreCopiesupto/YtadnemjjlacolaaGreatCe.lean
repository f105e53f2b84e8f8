import Derived.Test.YtadnemjjlacolaaGreatCd
import Derived.Test.YtadnemjjlacolaaGreatDc
set_option linter.all false
namespace Go.Ev
open Go.Proofs
set_option maxRecDepth 100000
variable {g:Gm}{K b d i v1:Nat}{h h0:Ab}{Q:EV->Ab->Prop}{L:List Int}{v:EV}{disp:Nat->Option FT}
noncomputable def Mi.A5q(cur By:Nat->Int)(S:Mi)(z:Int):Mi:=if Ada cur By z=true then S else S.Ala z
noncomputable def Mi.Ajm(cur By:Nat->Int)(S:Mi):Nat->Mi
 | 0=>S
 | n+1=>(Mi.Ajm cur By S n).A5q cur By n
theorem Bl4(cur By:Nat->Int)(S:Mi)(z:Int):(S.A5q cur By z).bad=S.bad/\(S.A5q cur By z).g=S.g/\(S.A5q cur By z).dr=S.dr:=by
 unfold Mi.A5q;split<;>exact⟨rfl,rfl,rfl⟩
theorem Au4(cur By:Nat->Int)(S:Mi):∀n,(S.Ajm cur By n).bad=S.bad/\(S.Ajm cur By n).g=S.g/\(S.Ajm cur By n).dr=S.dr
 | 0=>⟨rfl,rfl,rfl⟩
 | n+1=>by
  obtain⟨a,b,c⟩:=Bl4 cur By (S.Ajm cur By n) n;obtain⟨d,e,f⟩:=Au4 cur By S n;exact⟨a.trans d,b.trans e,c.trans f⟩
def G1(g:Gm):Nat->Int:=Om (Om (Om (fun _=>-1) 0 0) 1 g.Z) 2 (2*g.Z)
def G7(g:Gm):Nat->Int:=Om (Om (Om (fun _=>-1) 0 1) 1 (g.Z+1)) 2 (2*g.Z+1)
noncomputable def Co.start(g:Gm):Co:=⟨(Mi.new g).Ajm (G1 g) (G7 g) (g.D*g.Z).toNat,G1 g,G7 g,List.replicate g.B.toNat (Me.nil 0),0,1,1,false⟩
theorem Bnl(a:rtB g=true):g.P+3<=g.Z:=by
 have s:=Nw a;have h:2*g.B<=g.S*g.segments:=by
  unfold rtB at a;simp only[aR,aQ]at a;exact a.2.2
 have:=s.b0;have:=s.s0;have:=s.d0;have:=s.p0;have e:1<=g.segments:=by
  rcases gJ 0 g.segments with y|y
  ·omega
  ·have:g.S*g.segments<=g.S*0:=bT y (by omega)
   omega
 by_cases f:g.P+3<=g.Z
 ·exact f
 ·exfalso
  unfold Gm.segments at e;have u0:(g.D-1)*(g.Z-g.P-2)<=0:=Int.mul_nonpos_of_nonneg_of_nonpos (by omega) (by omega);have j:0<=g.D*g.P:=dP (by omega) (by omega);have h2:g.least<=(g.D-1)*(g.Z-g.P-2)-g.De+1:=Int.min_le_left _ _;unfold Gm.De at h2;omega
theorem Ws(s:Sm g){k:Int}(f:(i:Int)<g.D)(a:0<=k)(e:k<g.Z):Bu g (i*g.Z+k)=i:=by
 have:=s.z0;have j:(0:Int)<=i*g.Z:=dP (by omega) (by omega);have h2:(i:Int)*g.Z+g.Z<=g.D*g.Z:=by
  have:((i:Int)+1)*g.Z<=g.D*g.Z:=fC (by omega) (by omega);rw[Int.add_mul,Int.one_mul]at this;exact this
 unfold Bu;rw[aF (by omega),Int.add_comm,Int.add_mul_ediv_right _ _ (by omega),Int.ediv_eq_zero_of_lt a e,Int.zero_add]
theorem Bg6(A:Bj disp)(J:10000<K)(hd:8<=d){n:Nat}(U:n<=600){ar m:Nat}{cur By:Nat->Int}{F:Nat->Prop}(O:F ar){S0:Mi}(b0:∀z,S0.bad z=0):∀(f i:Nat) (h:Ab),n-i<f->i<=n->Dd h m (S0.Ajm cur By i) F->HB h->h.get ar=some (.cells (arC m cur By) 152)->Kf F h0 h ->
 (∀h',Dd h' m (S0.Ajm cur By n) F->Kf F h0 h'->HB h'->Ok (Hj (Ae TT disp K d false) (Ae TT disp K d true) K (.ptr m 0) (.ptr b 0) (.ptr ar 0) h') Q) ->
 Ok (El (Ae TT disp K d false) (Ae TT disp K d true) K f (.ptr m 0) (.ptr b 0) (.ptr ar 0) (I n) (I i) h) Q:=by
 intro f;induction f with
 | zero=>intro i h P;omega
 | succ f S=>
  intro i h P V M hb C k D;rw[El];simp only[I,Ac];by_cases T:i<n
  ·have:decide ((i:Int)<(n:Int))=true:=by simp;omega
   simp only[this,Aa,Y6];have E:=Bjy (K:=K) A (d:=d) (by omega) (by omega) C hb (i:Int);simp only[I]at E;refine E.An ?_;rintro _ h2 ⟨rfl,x,e⟩;have M2:=(M.ext hb x).less fun j (hj:F j)=>Or.inl hj
   have t:=x.at hb C;have G:=k.trans (Ext.kf x);have nx:∀a,Dd a m (S0.Ajm cur By (i+1)) F->HB a->a.get ar=some (.cells (arC m cur By) 152)->Kf F h0 a->Ok (O5 (Ae TT disp K d false) (Ae TT disp K d true) K (El (Ae TT disp K d false) (Ae TT disp K d true) K f) (.ptr m 0) (.ptr b 0) (.ptr ar 0) (.int .i64 (n:Int)) (.int .i64 (i:Int)) a) Q:=fun a y q B u=>by
    simp only[O5,Ac];rw[Cj,show((i:Nat):Int)+1=((i+1:Nat):Int) by omega];exact S (i+1) a (by omega) (by omega) y q B u D
   have e1:S0.Ajm cur By (i+1)=if Ada cur By i=true then S0.Ajm cur By i else(S0.Ajm cur By i).Ala i:=rfl
   cases H:Ada cur By i with
   | true=>
    simp only[Aa];exact nx h2 (by rw[e1,aG H];exact M2) e t G
   | false=>
    simp only[Aa];obtain⟨p,e2,e3⟩:=Bdc M2 e A J;rw[e2,As];refine Ok.An (e3 hd (z:=(i:Int)) ⟨by omega,by omega⟩ fun _=>by rw[(Au4 cur By S0 i).1,b0];decide) ?_;rintro _ a ⟨rfl,y,u,q⟩;exact nx a (by rw[e1,aF (by rw[H];decide)];exact y) q (u.at e t O) (G.trans u)
  ·have:decide ((i:Int)<(n:Int))=false:=by simp;omega
   simp only[this,Aa];have:i=n:=by omega
   subst this;exact D h M k hb
theorem Bes {m a:Nat}{x y z:Int}(h:Ab):Asz K (.ptr m 0) (.ptr a 0) (.ptr b 0) (.agg [I x,I y,I z]) h=some (.ptr (h.next+1) 0,(h.new (.cells [I x,I y,I z] 69)).new (.cells [.ptr m 0,.ptr a 0,.ptr b 0,I x,I y,I z,.bool false] 109)):=by
 simp only[Asz,Aa];rw[Db (Ad _ _) rfl,Ai (n:=3) rfl]
 try simp only[Aa]
 rw[Ay (l:=[.ptr m 0,.ptr a 0,.ptr b 0,I x,I y,I z,.bool false]) rfl]
 try simp only[Aa]
 rfl
theorem Bby(A:Bj disp)(hK:10000<K)(hd:8<=d)(hr:rtB g=true)(hb:HB h){m ml ll L:Nat}(g1:h.get v1=some (.cells (gL g) 23))(mp:W8 h b ml ll g (List.replicate g.B.toNat (Me.nil 0)))(lb:L<=b/\L<=ml/\L<=ll)(M:Dd h m (Mi.new g) (fun i=>i<L\/i=b\/i=ml\/i=ll))(lv:v1<L)
 (P:∀h' ar,L<=ar->Dd h' m (Co.start g).S (fun i=>i<L\/i=b\/i=ml\/i=ll\/i=ar)->h'.get ar=some (.cells (arC m (G1 g) (G7 g)) 152)->W8 h' b ml ll g (List.replicate g.B.toNat (Me.nil 0))->Kf (fun i=>i<L) h h'->HB h'->Ok (Hj (Ae TT disp K d false) (Ae TT disp K d true) K (.ptr m 0) (.ptr b 0) (.ptr ar 0) h') Q) :
 Ok (Od (Ae TT disp K d false) (Ae TT disp K d true) K (.ptr v1 0) (.ptr m 0) (.ptr b 0) h) Q:=by
 have s:=Nw hr;have zz:=Bnl hr;have:=s.d0;have:=s.d1;have:=s.z0;have:=s.z1;have:=s.p0;obtain⟨m0,m1⟩:=Va (a:=g.D) (b:=g.Z) (A:=8) (B:=64) (by omega) (by omega) (by omega) (by omega);simp only[Od,dr];refine(Bbt (K:=K) (by omega) hb m).An ?_;rintro _ h2 ⟨rfl,ga,O,p⟩;have la:=p _ _ ga;have lm:h.next<=h.next:=aE _
 have l1:=hb _ _ g1;have l3:=hb _ _ mp.map;have l4:=hb _ _ mp.row;have l5:=hb _ _ mp.live;have M2:Dd h2 m (Mi.new g) (fun i=>i<L\/i=b\/i=ml\/i=ll\/i=h.next):=(M.ext hb O).less fun i f=>by
  rcases f with f|f|f|f|f
  ·exact .inl (.inl f)
  ·exact .inl (.inr (.inl f))
  ·exact .inl (.inr (.inr (.inl f)))
  ·exact .inl (.inr (.inr (.inr f)))
  ·exact .inr ⟨by omega,by omega⟩
 have hL:L<=h.next:=by omega
 have H:=O.at hb g1;generalize h.next=ar at *
 have T:(fun i=>i<L\/i=b\/i=ml\/i=ll\/i=ar) ar:=.inr (.inr (.inr (.inr rfl)));have st:∀(i:Nat) (q:Ab) (c o:Nat->Int) (n:Nat),i<3->Dd q m (Mi.new g) (fun i=>i<L\/i=b\/i=ml\/i=ll\/i=ar)->HB q->q.get ar=some (.cells (arC m c o) 152)->Av (fun j=>j=ar) h2 q ->
  (∀h4,Dd h4 m (Mi.new g) (fun i=>i<L\/i=b\/i=ml\/i=ll\/i=ar)->HB h4->h4.get ar=some (.cells (arC m (Om c i (i*g.Z)) (Om o i (i*g.Z+1))) 152)->Av (fun j=>j=ar) h2 h4->Ok (Du (Ae TT disp K d false) (Ae TT disp K d true) K n (.ptr v1 0) (.ptr m 0) (.ptr b 0) (.ptr ar 0) (I (i+1:Nat)) h4) Q) ->
  Ok (Du (Ae TT disp K d false) (Ae TT disp K d true) K (n+1) (.ptr v1 0) (.ptr m 0) (.ptr b 0) (.ptr ar 0) (I i) q) Q:=by
  intro i q c o n f U u x c3 P;rw[Du];simp only[I,Ac];have:decide ((i:Int)<3)=true:=by simp;omega
  simp only[this,Aa,Y4];have V:=c3.at p H (by show ¬v1=ar;omega);have ld:∀k:EV->R,Fm (.ptr v1 1) q k=k (I g.Z):=fun k=>Al V rfl rfl
  obtain⟨a0,a1⟩:=Va (a:=(i:Int)) (b:=g.Z) (A:=3) (B:=64) (by omega) (by omega) (by omega) (by omega);simp only[ld,I,Ac];rw[Cj,Cj];have d1:=Ws s (i:=i) (k:=0) (by omega) (by omega) (by omega);have d2:=Ws s (i:=i) (k:=1) (by omega) (by omega) (by omega);rw[Int.add_zero]at d1;have so:=Btw (K:=K) U u x T f (v:=i*g.Z) (w:=i*g.Z+1) (.inr d1) (.inr d2) (by omega);simp only[I]at so;refine so.An ?_;rintro _ h4 ⟨rfl,W,C,c4,E⟩;simp only[Zb,Ac];rw[Cj,show((i:Nat):Int)+1=((i+1:Nat):Int) by omega];exact P h4 W E C (c3.trans c4)
 obtain⟨K',rfl⟩:∃k,K=k+4:=⟨K-4,by omega⟩;refine st 0 h2 _ _ _ (by omega) M2 p ga (Av.refl _) fun q U u x c3=>st 1 q _ _ _ (by omega) U u x c3 fun h4 W E C c4=>st 2 h4 _ _ _ (by omega) W E C c4 fun h5 M5 t F c5=>?_
 rw[Du];simp only[I,Ac];simp only[show decide (((2+1:Nat):Int)<3)=false from rfl,Aa,O7];have X:=c5.at p H (by show ¬v1=ar;omega);rw[Db X rfl,Ai (n:=6) rfl]
 try simp only[Aa]
 rw[show EV.agg (gL g)=gV g from rfl,Lo s,As];obtain⟨n,hn⟩:=aY (show 0<=g.D*g.Z by omega);rw[hn];obtain⟨Y,e_,J,_,_⟩:=nW h5 (.cells (gL g) 23);rw[e_];have G:=J.hb t;have cc:Om (Om (Om (fun _=>-1) 0 ((0:Nat)*g.Z)) 1 ((1:Nat)*g.Z)) 2 ((2:Nat)*g.Z)=G1 g:=by
  unfold G1;rw[show(((0:Nat):Int))*g.Z=0 from Int.zero_mul _,show(((1:Nat):Int))*g.Z=g.Z from Int.one_mul _];rfl
 have co:Om (Om (Om (fun _=>-1) 0 ((0:Nat)*g.Z+1)) 1 ((1:Nat)*g.Z+1)) 2 ((2:Nat)*g.Z+1)=G7 g:=by
  unfold G7;rw[show(((0:Nat):Int))*g.Z=0 from Int.zero_mul _,show(((1:Nat):Int))*g.Z=g.Z from Int.one_mul _];rfl
 rw[cc,co]at F;have M6:=(M5.ext t J).less (F':=fun i=>i<L\/i=b\/i=ml\/i=ll\/i=ar) fun j hj=>Or.inl hj
 refine Bg6 (S0:=Mi.new g) (cur:=G1 g) (By:=G7 g) (h0:=Y) A hK hd (n:=n) (by omega) T (fun _=>rfl) (K'+4) 0 Y (by omega) (by omega) M6 G (J.at t F) (Av.refl _) fun h7 M7 k7 ad=>?_
 have ca:Av (fun j=>j=ar) h2 Y:=c5.trans (Ext.to J);have kp:∀i o,i<ar->(i<L\/i=b\/i=ml\/i=ll)->h.get i=some o->h7.get i=some o:=fun i o f hf e=>k7.at G (ca.at p (O.at hb e) (by show ¬i=ar;omega)) (by
  rcases hf with y|y|y|y
  ·exact .inl y
  ·exact .inr (.inl y)
  ·exact .inr (.inr (.inl y))
  ·exact .inr (.inr (.inr (.inl y))))
 refine P h7 ar hL ?_ (k7.at G (J.at t F) T) ⟨kp _ _ l3 (.inr (.inl rfl)) mp.map,kp _ _ l4 (.inr (.inr (.inl rfl))) mp.row,kp _ _ l5 (.inr (.inr (.inr rfl))) mp.live,mp.len,mp.ok⟩ ?_ ad
 ·show Dd h7 m ((Mi.new g).Ajm (G1 g) (G7 g) (g.D*g.Z).toNat) _
  rw[hn];exact M7
 ·refine(Ext.kf O).trans ((ca.mono fun i f y=>?_).trans (k7.less fun i f=>.inl f))
  have y:i<L:=y;have f:i=ar:=f;omega
theorem Co.Bnz(a:rtB g=true):(Co.start g).Wf:=by
 have s:=Nw a;have m:=Bnl a;have:=s.d0;have:=s.p0;have:=s.z0;have:=s.s0;obtain⟨_,e2,e3⟩:=Au4 (G1 g) (G7 g) (Mi.new g) (g.D*g.Z).toNat;have e:(Co.start g).S.g=g:=e2;have d0:=Ws s (i:=0) (k:=0) (by omega) (by omega) (by omega);have d1:=Ws s (i:=1) (k:=0) (by omega) (by omega) (by omega);have d2:=Ws s (i:=2) (k:=0) (by omega) (by omega) (by omega);have o0:=Ws s (i:=0) (k:=1) (by omega) (by omega) (by omega);have o1:=Ws s (i:=1) (k:=1) (by omega) (by omega) (by omega);have f:=Ws s (i:=2) (k:=1) (by omega) (by omega) (by omega);refine⟨by rw[e];exact a,⟨fun i j=>.inr ?_,fun i j=>.inr ?_⟩,?_⟩
 ·rw[e]
  rcases(show i=0\/i=1\/i=2 by omega)with rfl|rfl|rfl
  ·rw[<-d0];congr 1;show(0:Int)=_;omega
  ·rw[<-d1];congr 1;show g.Z=_;omega
  ·rw[<-d2];congr 1;show 2*g.Z=_;omega
 ·rw[e]
  rcases(show i=0\/i=1\/i=2 by omega)with rfl|rfl|rfl
  ·rw[<-o0];congr 1;show(1:Int)=_;omega
  ·rw[<-o1];congr 1;show g.Z+1=_;omega
  ·rw[<-f];congr 1
 ·show 0<(Co.start g).S.dr.dv.size
  rw[show(Co.start g).S.dr=(Mi.new g).dr from e3];show 0<g.S.toNat;omega
theorem Yz(A:Bj disp)(hK:10000<K)(hd:9<=d)(g:Gm)(hb:HB h):Ok (Ae TT disp K d false 12 [gV g] h) fun v h'=>Kf (fun i=>i<h.next) h h'/\HB h' /\
 if rtB g=true/\g.D*g.Z<=64 then ∃B,v=.ptr B.c 0/\Cz h' B (Co.start g) (fun i=>i<h.next)/\h.next<=B.c else v=.E3:=by
 obtain⟨e,rfl⟩:∃k,d=k+1:=⟨d-1,by omega⟩;rw[Aj9 A (by omega)];simp only[Adh,gV,Aa];obtain⟨h1,e_,x1,g1,n1⟩:=nW h (.cells (gL g) 23);rw[e_];have aa:=x1.hb hb;rw[Db g1 rfl,Ai (n:=6) rfl]
 try simp only[Aa]
 rw[show EV.agg (gL g)=gV g from rfl];refine(Bl1 g (by omega) h1).An ?_;rintro _ h3 ⟨rfl,x3⟩;have t:=x3.hb aa;have J:Ext h h3:=x1.trans x3;have bo:Cg (.tuple []) false=false/\Cg (.tuple []) true=false:=⟨rfl,rfl⟩;cases hr:rtB g with
 | false=>
  simp only[Aa,Ac,Jq];exact .ret ⟨Ext.kf J,t,by rw[aF (fun y=>by cases y.1)]⟩
 | true=>
 have s:=Nw hr;have:=s.d0;have:=s.d1;have:=s.z0;have:=s.z1;have:=s.s0;have:=s.s1;have:=s.o0;have:=s.o1;obtain⟨m0,m1⟩:=Va (a:=g.D) (b:=g.Z) (A:=8) (B:=64) (by omega) (by omega) (by omega) (by omega);have m2:3<=g.D*g.Z:=by
  have:3*1<=g.D*g.Z:=Int.mul_le_mul (by omega) (by omega) (by omega) (by omega);omega
 have E:=x3.at aa g1;simp only[Aa,Ac,C8 E rfl,gL,I];rw[Cj];by_cases ad:64<g.D*g.Z
 ·simp only[ad,aB,Aa,Ac,Jq]
  exact .ret ⟨Ext.kf J,t,by rw[aF (fun y=>by omega)]⟩
 simp only[ad,aA,Aa,Ac,Jq,Xa,Aw];have l3:=t _ _ E;rw[Ku l3,Db E rfl,Ai (n:=6) rfl]
 try simp only[Aa,Aw]
 rw[show EV.agg (gL g)=gV g from rfl];refine Ok.bE (P:=fun v h'=>v=I (g.D*g.Z)/\Ext h3.lift h') ⟨_,_,Lo s _,rfl,Av.new _ _⟩ (fun _ _ p=>p.2) ?_;rintro _ _ h4 ⟨rfl,_⟩ _ x4;have T:=x4.hb t;have U:=x4.at t E;rw[Ku l3,Al U rfl (v:=I g.S) rfl]
 try simp only[Aa,Aw]
 rw[Ku l3,Al U rfl (v:=I g.O) rfl]
 try simp only[Aa,Aw]
 have au:Asy (g.D*g.Z) g.S g.O=true:=by
  unfold Asy;rw[Fl.2 ⟨by omega,by omega⟩,Fl.2 ⟨by omega,by omega⟩,Fl.2 ⟨by omega,by omega⟩];rfl
 refine Ok.bE (Bat (K:=K) au (by omega) (D4 T)) (fun _ _ p=>by obtain⟨_,_,_,_,_,_,x,_⟩:=p;exact x) ?_;rintro _ bp h5 ⟨D,V,M,aw,z,rfl,_,_,dr,nd⟩ sm x5;have u:=x5.hb T;have dr:=dr.ext (h':=h5) fun i o g=>by rw[sm.get];exact g
 have W:=x5.at T U;have bt:h4.lift.next=h4.next:=rfl
 simp only[Aa,I,Ac,aD,aA,Xb,Aw];have l5:=u _ _ W;rw[Ku l5,Db W rfl,Ai (n:=6) rfl]
 try simp only[Aa,Aw]
 rw[A66 (v:=Abr) (by kernel_rfl) (by kernel_rfl) rfl];have ax:Als h5.lift D V M aw (g.D*g.Z).toNat z (fun _=>0) g.S g.O 0 false .Ao .Ao [] (fun _=>Zn.empty):=dr.ext fun i o g=>by rw[Ci];exact g
 rw[show EV.agg (gL g)=gV g from rfl];refine Ok.bE (A60 (K:=K) (g:=g) (by omega) (D4 u) ax) (fun _ _ p=>p.1) ?_;rintro v ay h6 ⟨_,_,hv⟩ az x6;have F:=x6.hb u;rw[aG ⟨hr,by omega,rfl⟩]at hv;obtain⟨m,p,bl,ql,q,c,rfl,MA,PA,nm⟩:=hv;have k6:∀i o,ay.get i=some o->h6.get i=some o:=fun i o g=>by rw[az.get];exact g
 have t1:=x1.next;have t3:=x3.next;have t4:=x4.next;have t5:=x5.next;have t6:=x6.next
 have b5:h5.lift.next=h5.next:=rfl
 have M6:=Bre s (h0:=h4) F (dr.ext fun i o g=>x6.at u g) ⟨⟨by omega,by omega⟩,by omega,by omega,nd.2.2.2⟩ (MA.ext k6) (PA.ext k6) ⟨⟨by omega,by omega⟩,by omega,by omega,fun d hd=>by have:=nm.2.2.2 d hd;omega⟩ (by omega);have af:=x6.at u W;simp only[Aa,I,Ac];rw[Db af rfl,Ai (n:=6) rfl]
 try simp only[Aa]
 rw[show EV.agg (gL g)=gV g from rfl];refine(Baj (K:=K) hr F).An ?_;rintro _ h7 ⟨b,ml,ll,rfl,mp,x7,G,lb,b7,b8⟩;simp only[Aa,I,Ac,aD,aA,Xg];have ca:=G _ _ mp.map;have cc:=G _ _ mp.row;have cf:=G _ _ mp.live;have M7:Dd h7 m (Mi.new g) (fun i=>i<h4.next\/i=b\/i=ml\/i=ll):=(M6.ext F x7).less fun i f=>by
  rcases f with f|f|f|f
  ·exact .inl f
  ·exact .inr ⟨by omega,by omega⟩
  ·exact .inr ⟨by omega,by omega⟩
  ·exact .inr ⟨by omega,by omega⟩
 have a1:Ext h h7:=(((J.trans x4).trans x5).trans x6).trans x7;refine Bby (K:=K) A hK (d:=e) (by omega) hr G (v1:=h.next) (L:=h4.next) (x7.at F af) mp ⟨by omega,by omega,by omega⟩ M7 (by omega) fun C ar cp M8 ag H k8 j=>?_
 simp only[Hj,dr];rw[Ay (l:=[I 0,I 1,I 1]) rfl]
 try simp only[Aa]
 rw[Bes,As];have Y:Ext C ((C.new (.cells [I 0,I 1,I 1] 69)).new (.cells [.ptr m 0,.ptr ar 0,.ptr b 0,I 0,I 1,I 1,.bool false] 109)):=(Av.new _ _).Ds _;have g9:((C.new (.cells [I 0,I 1,I 1] 69)).new (.cells [.ptr m 0,.ptr ar 0,.ptr b 0,I 0,I 1,I 1,.bool false] 109)).get (C.next+1)=some (.cells [.ptr m 0,.ptr ar 0,.ptr b 0,I 0,I 1,I 1,.bool false] 109):=Ad _ _;generalize (C.new (.cells [I 0,I 1,I 1] 69)).new (.cells [.ptr m 0,.ptr ar 0,.ptr b 0,I 0,I 1,I 1,.bool false] 109)=h9 at Y g9⊢;have X:=Y.hb j;have l9:=X _ _ g9;have e2:(Co.start g).S.g=g:=(Au4 (G1 g) (G7 g) (Mi.new g) (g.D*g.Z).toNat).2.1;have cw:=j _ _ ag;have cx:=j _ _ H.map;have cy:=j _ _ H.row;have cz:=j _ _ H.live;have t8:=k8.next
 have M9:=M8.ext j Y;refine .ret ⟨?_,X,?_⟩
 ·exact(Ext.kf a1).trans ((k8.trans (Ext.kf Y)).mono fun i f y=>f (by have y:i<h.next:=y;show i<h4.next;omega))
 ·rw[aG ⟨trivial,by omega⟩]
  refine⟨⟨C.next+1,ar,m,b,ml,ll⟩,rfl,⟨M9.less fun i f=>?_,g9,Y.at j ag,?_,Co.Bnz hr,fun i f y=>?_,X⟩,?_⟩
  ·rcases f with f|f|f|f|f|f
   ·exact .inl (.inl (show i<h4.next by have f:i<h.next:=f;omega))
   ·exact .inr ⟨by have f:i=C.next+1:=f;omega,by have f:i=C.next+1:=f;omega⟩
   ·exact .inl (.inr (.inr (.inr (.inr f))))
   ·exact .inl (.inr (.inl f))
   ·exact .inl (.inr (.inr (.inl f)))
   ·exact .inl (.inr (.inr (.inr (.inl f))))
  ·show W8 h9 b ml ll (Co.start g).S.g _
   rw[e2];exact H.ext fun i o g=>Y.at j g
  ·have f:i<h.next:=f
   rcases y with y|y|y|y|y
   ·have y:i=C.next+1:=y;omega
   ·have y:i=ar:=y;omega
   ·have y:i=b:=y;omega
   ·have y:i=ml:=y;omega
   ·have y:i=ll:=y;omega
  ·show h.next<=C.next+1
   omega
def z8(b:Nat):EV:=.int .u8 (Int.ofNat b)
theorem Bhy{v2 v3:Nat}(a:v2≠v3):∀(m i:Nat) (h:Ab),32-i<m->i<=32->HB h->h.get v2=some (.cells (List.replicate 32 (z8 0)) 49)->h.get v3=some (.cells (List.replicate i (z8 b)++List.replicate (32-i) (z8 0)) 49) ->
 Ok (Z1 K m (z8 b) (.ptr v2 0) (.ptr v3 0) (I i) h) fun v h'=>v=.agg (List.replicate 32 (z8 b))/\Av (fun j=>j=v2\/j=v3) h h'/\HB h':=by
 intro m;induction m with
 | zero=>intro i h hm;omega
 | succ m x=>
  intro i h hm A hb e f;rw[Z1];simp only[I,Ac,Aa];by_cases k:i<32
  ·have:decide ((i:Int)<32)=true:=by simp;omega
   simp only[this,Aa,Awq];rw[Air k];simp only[Aa,bZ];have t:=hb _ _ f;refine Ok.st1 f rfl rfl (by simp;omega) ?_;simp only[Av8,Ac];rw[Cj,show((i:Nat):Int)+1=((i+1:Nat):Int) by omega];have y:((List.replicate i (z8 b)++List.replicate (32-i) (z8 0)).set i (z8 b))=List.replicate (i+1) (z8 b)++List.replicate (32-(i+1)) (z8 0):=by
    rw[eV _ _ (by simp),bQ,gK,show 32-i=(32-(i+1))+1 by omega,eI,List.set_cons_zero,List.replicate_succ',cW];rfl
   rw[y];refine(x (i+1) _ (by omega) (by omega) (hb.put t _) (by rw[Ag _ (cV a)];exact e) (Af _ _ _)).mono ?_;rintro v h' ⟨rfl,c,p⟩;exact⟨rfl,((Av.refl (S:=fun j=>j=v2\/j=v3) h).Ar (.inl (.inr rfl)) t _).trans c,p⟩
  ·have:decide ((i:Int)<32)=false:=by simp;omega
   have q:i=32:=by omega
   subst q;simp only[this,Aa,Awm];rw[Db f rfl,Ai (n:=32) (by simp)];simp only[Aa];have u:=hb _ _ e;refine Ok.st (List.replicate 32 (z8 b)) e rfl rfl (Bm rfl) ?_;rw[Yr (Af _ _ _) Avv.1 Avv.2 rfl];exact .ret ⟨rfl,(Av.refl (S:=fun j=>j=v2\/j=v3) h).Ar (.inl (.inl rfl)) u _,hb.put u _⟩
theorem Bnt(m:100<K)(b:Nat)(hb:HB h):Ok (Ap3 K (z8 b) h) fun v h'=>v=.agg (Bh (List.replicate 32 b))/\Ext h h'/\HB h':=by
 simp only[Ap3,Aa];rw[show(h.new (.cells (List.replicate 32 (EV.int .u8 0)) 49)).next=h.next+1 from rfl];have f:Ext h ((h.new (.cells (List.replicate 32 (EV.int .u8 0)) 49)).new (.cells (List.replicate 32 (EV.int .u8 0)) 49)):=(Av.new _ _).Ds _;have j:((h.new (.cells (List.replicate 32 (EV.int .u8 0)) 49)).new (.cells (List.replicate 32 (EV.int .u8 0)) 49)).get h.next=some (.cells (List.replicate 32 (z8 0)) 49):=by
  rw[Az _ (aL _)];exact Ad _ _
 have k:((h.new (.cells (List.replicate 32 (EV.int .u8 0)) 49)).new (.cells (List.replicate 32 (EV.int .u8 0)) 49)).get (h.next+1)=some (.cells (List.replicate 0 (z8 b)++List.replicate (32-0) (z8 0)) 49):=Ad _ _;refine(Bhy (K:=K) (b:=b) (v2:=h.next) (v3:=h.next+1) (by omega) K 0 _ (by omega) (by omega) (f.hb hb) j k).mono ?_;rintro v h' ⟨rfl,c,a⟩;refine⟨?_,f.then c fun i e n=>?_,a⟩
 ·unfold Bh;rw[fI];rfl
 ·rcases e with e|e<;>omega
theorem Evt.Br {e:Evt}(w:e.Wf):e.cells.length=68:=by
 unfold Evt.cells;rw[aH,w.len];rfl
structure A35(h:Ab)(v:EV)(b:Nat)(L:List Int):Prop where
 row:(L = []/\lenOf v=some 0)\/∃off r op,v=.slice b off L.length r op/\∀j (hj:j<L.length) (k:EV->R),Fm (.ptr b (off+j)) h k=k (I L[j])
theorem A35.frame {h':Ab}(r:A35 h v b L)(e:0<L.length->h'.get b=h.get b):A35 h' v b L:=by
 refine⟨?_⟩;rcases r.row with y|⟨off,a,op,rfl,y⟩
 ·exact .inl y
 ·refine .inr ⟨off,a,op,rfl,fun j hj k=>?_⟩
  have:=y j hj k;show oB _ (Aq4 (h'.get b) _ 1)=_;rw[e (by omega)];exact this
theorem A35.F3(r:A35 h v b L)(k:EV->R):Ev.F3 v k=k (I L.length):=by
 rcases r.row with⟨rfl,y⟩|⟨off,a,op,rfl,_⟩
 ·unfold Ev.F3;rw[y];rfl
 ·rfl
theorem A35.at(r:A35 h v b L){j:Nat}(hj:j<L.length)(k:EV->R):Z8 1 v (.int .i64 (j:Int)) (fun p=>Fm p h k)=k (I L[j]):=by
 rcases r.row with⟨rfl,_⟩|⟨off,a,op,rfl,y⟩
 ·exact absurd hj (br _)
 ·rw[Lv hj,bZ];exact y j hj k
structure H0 where
 kind:Int
 x:Int
 y:Int
 bl:EV
 bq:Nat
 bs:List Int
 ev:Evt
def H0.cells(o:H0):List EV:=[I o.kind,I o.x,I o.y,o.bl]++o.ev.cells
structure H0.At(h:Ab)(o:H0):Prop where
 row:A35 h o.bl o.bq o.bs
 ev:o.ev.Wf
 pl:o.bl.plain=true/\o.bl.cells = [o.bl]
theorem H0.len {o:H0}(w:o.ev.Wf):o.cells.length=72:=by
 unfold H0.cells;rw[aH,Evt.Br w];rfl
def wb(n:Int):Nat:=(n%256).toNat
theorem Bvz(n:Int):wb n<256:=by unfold wb;omega
theorem Bsg(n:Int):Dz .u8 (Dz .i64 n)=Int.ofNat (wb n):=by
 rw[Oc,Oc];unfold wb;have a:IntKind.u8.wrap (IntKind.i64.wrap n)=(IntKind.i64.wrap n)%256:=rfl;have h2:(IntKind.i64.wrap n)%256=n%256:=by
  simp only[IntKind.wrap,IntKind.bits,IntKind.signed,bF,aQ];split<;>omega
 rw[a,h2];show _=(((n%256).toNat:Nat):Int);omega
def wrL(x:Int)(bs:List Int)(i:Nat):Wr:=⟨bs.getD i 0,List.replicate 32 (wb (x+i))⟩
def wrs(x:Int)(bs:List Int):List Wr:=(List.range bs.length).map (wrL x bs)
theorem Bg0(x:Int)(bs:List Int)(i:Nat):(wrL x bs i).Wf:=⟨bQ,fun b hb=>by rw[bP hb];exact Bvz _⟩
theorem Ack(x:Int)(bs:List Int):(wrs x bs).length=bs.length:=by unfold wrs;simp
theorem Bub(a:Int){bl:List Nat}(e:bl.length=32):Afp (Ed [(0,1),(1,32)]) [(0,I a),(1,.agg (Bh bl))] ([EV.int .i64 0]++List.replicate 32 (.int .u8 0))=some (⟨a,bl⟩:Wr).cells:=by
 have hs:=Ao1 [I a] (List.replicate 32 (EV.int .u8 0)) (Bh bl) (by rw[Be,e];simp);rw[<-Aab]at hs;show Bf (Nat.beq (Gk (Bh bl)) 32) (oB (fun z=>some z) (O0 ([I a]++List.replicate 32 (EV.int .u8 0)) 1 (Bh bl))) none=_;rw[Bc,Be,e,cO,Ak];rw[show(1:Nat) = [I a].length from rfl,hs];rfl
theorem Brf {L:List Wr}(w:∀x∈L,x.Wf):∀x∈L.map Wr.cells,x.length=33:=fun x a=>by
 obtain⟨y,e,rfl⟩:=bc.1 a;exact Wr.len (w y e)
theorem Bpy(x:Int)(bs:List Int)(a:i<bs.length):((List.range (i+1)).map (wrL x bs)).map Wr.cells=((List.range i).map (wrL x bs)).map Wr.cells++[(wrL x bs i).cells]:=by
 rw[dA,cX,cX];rfl
theorem A2j(M:1000<K){o:H0}(O:o.bs.length<=1048576):∀(f i:Nat) (h:Ab) (s:EV) (q:Nat),o.bs.length-i<f->i<=o.bs.length->HB h->Ext h0 h->h.get v1=some (.cells o.cells 34)->v1<h0.next->(0<o.bs.length->o.bq<h0.next)->A35 h o.bl o.bq o.bs->Cs h s q 84 33 i (((List.range i).map (wrL o.x o.bs)).map Wr.cells).flatten->(0<i->h0.next<=q) ->
 Ok (Gn K f (.ptr v1 0) s o.bl (I o.bs.length) (I i) h) fun v h'=>∃q,A0d h' v q (wrs o.x o.bs)/\Ext h0 h'/\HB h'/\(0<o.bs.length->h0.next<=q/\q<h'.next):=by
 intro f;induction f with
 | zero=>intro i h s q F;omega
 | succ f G=>
  intro i h s q F P hb m B l1 lb C row lq;rw[Gn];simp only[I,Ac];by_cases a:i<o.bs.length
  ·have:decide ((i:Int)<(o.bs.length:Int))=true:=by simp;omega
   simp only[this,Aa,Wq];rw[C.at a];have H:∀k:EV->R,Fm (.ptr v1 1) h k=k (I o.x):=fun k=>Al B rfl rfl
   simp only[Aa,H,I,Ac,A76];rw[Bsg];refine(Bnt (K:=K) (by omega) (wb (o.x+i)) hb).An ?_;rintro _ h2 ⟨rfl,A,p⟩;rw[show EV.int .i64 o.bs[i]=I o.bs[i]from rfl,Ay (Bub _ (by simp))];have wf:=Bg0 o.x o.bs i;have J:(⟨o.bs[i],List.replicate 32 (wb (o.x+i))⟩:Wr)=wrL o.x o.bs i:=by
    unfold wrL;rw[show o.bs.getD i 0=o.bs[i] by rw[List.getD,aC a];rfl]
   rw[J];have t:=row.frame (h':=h2) fun y=>A.get _ (hb _ _ (row.block y)) id
   refine Qe t p rfl (by simp) (Wr.len wf) (by omega) (by omega) ?_;intro D u n3 c3;simp only[Wu,Ac];rw[Cj,show((i:Nat):Int)+1=((i+1:Nat):Int) by omega];have c:Av (fun j=>0<i/\j=q) h D:=(Ext.to A).trans c3;have t0:=m.next
   have t2:=A.next
   refine G (i+1) D _ (h2.next+1) (by omega) (by omega) (c3.hb p) (m.then c fun j hj y=>?_) (c.at hb B fun y=>?_) l1 lb (C.frame fun y=>c.get _ (by have:=lb y;omega) fun z=>?_) ?_ (fun _=>by omega)
   ·have:=lq hj.1;have:=hj.2;omega
   ·have:=lq y.1;have:=y.2;omega
   ·have:=lq z.1;have:=z.2;have:=lb y;omega
   ·rw[Bpy _ _ a,dZ,show([(wrL o.x o.bs i).cells]).flatten=(wrL o.x o.bs i).cells from dK _]
    exact u
  ·have:i=o.bs.length:=by omega
   subst this;simp only[Int.lt_irrefl,aA,Aa,V7];have e:∀w∈wrs o.x o.bs,w.Wf:=fun w hw=>by unfold wrs at hw;obtain⟨i,_,rfl⟩:=bc.1 hw;exact Bg0 _ _ _
   rcases dI o.bs.length with y|y
   ·have e0:wrs o.x o.bs = []:=dB (by rw[Ack,y])
    rcases row with⟨_,_,rfl|⟨b,rfl⟩⟩|⟨z,_⟩
    ·exact .ret ⟨0,⟨.inl ⟨rfl,e0⟩,e⟩,m,hb,fun z=>by omega⟩
    ·exact .ret ⟨b,⟨.inr ⟨0,0,false,by rw[Ack,y],fun j hj=>by rw[Ack]at hj;omega⟩,e⟩,m,hb,fun z=>by omega⟩
    ·omega
   ·refine .ret ⟨q,⟨?_,e⟩,m,hb,fun y=>⟨lq y,hb _ _ (row.block y)⟩⟩
    ·refine .inr ⟨0,o.bs.length,true,by rw[Ack];exact row.slice y,fun j hj k=>?_⟩
     rw[bJ];refine Bp (row.block y) rfl ?_;have:=A09 (n:=33) (l:=(wrs o.x o.bs).map Wr.cells) (Brf fun x E=>by unfold wrs at E;obtain⟨i,_,rfl⟩:=bc.1 E;exact Bg0 _ _ _) (j:=j) (by rw[bX];exact hj);rw[List.getElem_map]at this;exact this
variable {o:H0}
theorem Aaa(a:h.get v1=some (.cells o.cells 34))(k:EV->R):Fm (.ptr v1 0) h k=k (I o.kind)/\Fm (.ptr v1 1) h k=k (I o.x)/\Fm (.ptr v1 2) h k=k (I o.y)/\Fm (.ptr v1 3) h k=k o.bl:=⟨Al a rfl rfl,Al a rfl rfl,Al a rfl rfl,Al a rfl rfl⟩
end Go.Ev
