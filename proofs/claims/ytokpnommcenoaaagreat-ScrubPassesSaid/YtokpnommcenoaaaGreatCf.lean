import Derived.Test.YtokpnommcenoaaaGreatCe
import Derived.Test.YtokpnommcenoaaaGreatDc
import Derived.Test.YtokpnommcenoaaaGreatCd
import Derived.Test.YtokpnommcenoaaaGreatCb
set_option linter.all false
namespace Go.Ev
open Go.Proofs
set_option maxRecDepth 100000
variable {K b d i n q ml v2 off:Nat}{Cv cur:Nat->Int}{F:Nat->Prop}{h h0:Ab}{Q:EV->Ab->Prop}{g:Gm}{X:Co}{B:Cb}{v vo:EV}{f:Fr}{es:List Me}{disp:Nat->Option FT}
theorem A7l(A:By disp)(hK:10000<K)(hd:8<=d)(V:n<=600){ar m:Nat}(P:F ar){S0:Mi}(b0:∀z,S0.bad z=0):∀(f i:Nat) (h:Ab),n-i<f->i<=n->Dd h m (S0.Akf cur Cv i) F->HB h->h.get ar=some (.cells (arC m cur Cv) 212)->Kf F h0 h ->
 (∀h',Dd h' m (S0.Akf cur Cv n) F->Kf F h0 h'->HB h'->Ok (F3 (Ag TT disp K d false) (Ag TT disp K d true) K (.ptr m 0) (.ptr b 0) (.ptr ar 0) h') Q) ->
 Ok (D9 (Ag TT disp K d false) (Ag TT disp K d true) K f (.ptr m 0) (.ptr b 0) (.ptr ar 0) (I n) (I i) h) Q:=by
 intro f;induction f with
 | zero=>intro i h S;omega
 | succ f T=>
  intro i h S W M hb E k G;rw[D9];simp only[I,Ac];by_cases U:i<n
  ·have:decide ((i:Int)<(n:Int))=true:=by simp;omega
   simp only[this,Aa,Uf];have H:=Bf8 (K:=K) A (d:=d) (by omega) (by omega) E hb (i:Int);simp only[I]at H;refine H.Am ?_;rintro _ h2 ⟨rfl,y,e⟩;have M2:=(M.ext hb y).less fun j (hj:F j)=>Or.inl hj
   have u:=y.at hb E;have J:=k.trans (Ext.kf y);have nx:∀a,Dd a m (S0.Akf cur Cv (i+1)) F->HB a->a.get ar=some (.cells (arC m cur Cv) 212)->Kf F h0 a->Ok (Ms (Ag TT disp K d false) (Ag TT disp K d true) K (D9 (Ag TT disp K d false) (Ag TT disp K d true) K f) (.ptr m 0) (.ptr b 0) (.ptr ar 0) (.int .i64 (n:Int)) (.int .i64 (i:Int)) a) Q:=fun a C t D x=>by
    simp only[Ms,Ac];rw[Ci,show((i:Nat):Int)+1=((i+1:Nat):Int) by omega];exact T (i+1) a (by omega) (by omega) C t D x G
   have e1:S0.Akf cur Cv (i+1)=if A01 cur Cv i=true then S0.Akf cur Cv i else(S0.Akf cur Cv i).Bem i:=rfl
   cases O:A01 cur Cv i with
   | true=>
    simp only[Aa];exact nx h2 (by rw[e1,aQ O];exact M2) e u J
   | false=>
    simp only[Aa];obtain⟨p,e2,e3⟩:=Ba5 M2 e A hK;rw[e2,Aq];refine Ok.Am (e3 hd (z:=(i:Int)) ⟨by omega,by omega⟩ fun _=>by rw[(Akr cur Cv S0 i).1,b0];decide) ?_;rintro _ a ⟨rfl,C,x,t⟩;exact nx a (by rw[e1,aM (by rw[O];decide)];exact C) t (x.at e u P) (J.trans x)
  ·have:decide ((i:Int)<(n:Int))=false:=by simp;omega
   simp only[this,Aa];have:i=n:=by omega
   subst this;exact G h M k hb
theorem A3s(A:By disp)(hK:10000<K)(hd:8<=d)(hr:rtB g=true)(hb:HB h){v1 m ll L:Nat}(g1:h.get v1=some (.cells (gL g) 23))(mp:L0 h b ml ll g (List.replicate g.B.toNat (Me.nil 0)))(lb:L<=b/\L<=ml/\L<=ll)(M:Dd h m (Mi.new g) (fun i=>i<L\/i=b\/i=ml\/i=ll))(lv:v1<L)
 (V:∀h' ar,L<=ar->Dd h' m (Co.start g).S (fun i=>i<L\/i=b\/i=ml\/i=ll\/i=ar)->h'.get ar=some (.cells (arC m (Vi g) (Vg g)) 212)->L0 h' b ml ll g (List.replicate g.B.toNat (Me.nil 0))->Kf (fun i=>i<L) h h'->HB h'->Ok (F3 (Ag TT disp K d false) (Ag TT disp K d true) K (.ptr m 0) (.ptr b 0) (.ptr ar 0) h') Q) :
 Ok (L9 (Ag TT disp K d false) (Ag TT disp K d true) K (.ptr v1 0) (.ptr m 0) (.ptr b 0) h) Q:=by
 have s:=Uy hr;have zz:=Brw hr;have:=s.d0;have:=s.d1;have:=s.z0;have:=s.z1;have:=s.p0;obtain⟨m0,m1⟩:=Oi (a:=g.D) (b:=g.Z) (A:=8) (B:=64) (by omega) (by omega) (by omega) (by omega);simp only[L9,dr];refine(A87 (K:=K) (by omega) hb m).Am ?_;rintro _ h2 ⟨rfl,ga,U,t⟩;have la:=t _ _ ga;have lm:h.next<=h.next:=aD _
 have l1:=hb _ _ g1;have l3:=hb _ _ mp.map;have l4:=hb _ _ mp.row;have l5:=hb _ _ mp.live;have M2:Dd h2 m (Mi.new g) (fun i=>i<L\/i=b\/i=ml\/i=ll\/i=h.next):=(M.ext hb U).less fun i p=>by
  rcases p with p|p|p|p|p
  ·exact .inl (.inl p)
  ·exact .inl (.inr (.inl p))
  ·exact .inl (.inr (.inr (.inl p)))
  ·exact .inl (.inr (.inr (.inr p)))
  ·exact .inr ⟨by omega,by omega⟩
 have hL:L<=h.next:=by omega
 have P:=U.at hb g1;generalize h.next=ar at *
 have W:(fun i=>i<L\/i=b\/i=ml\/i=ll\/i=ar) ar:=.inr (.inr (.inr (.inr rfl)));have st:∀(i:Nat) (u:Ab) (c o:Nat->Int) (n:Nat),i<3->Dd u m (Mi.new g) (fun i=>i<L\/i=b\/i=ml\/i=ll\/i=ar)->HB u->u.get ar=some (.cells (arC m c o) 212)->As (fun j=>j=ar) h2 u ->
  (∀h4,Dd h4 m (Mi.new g) (fun i=>i<L\/i=b\/i=ml\/i=ll\/i=ar)->HB h4->h4.get ar=some (.cells (arC m (Ol c i (i*g.Z)) (Ol o i (i*g.Z+1))) 212)->As (fun j=>j=ar) h2 h4->Ok (Di (Ag TT disp K d false) (Ag TT disp K d true) K n (.ptr v1 0) (.ptr m 0) (.ptr b 0) (.ptr ar 0) (I (i+1:Nat)) h4) Q) ->
  Ok (Di (Ag TT disp K d false) (Ag TT disp K d true) K (n+1) (.ptr v1 0) (.ptr m 0) (.ptr b 0) (.ptr ar 0) (I i) u) Q:=by
  intro i u c o n p Y C E c3 V;rw[Di];simp only[I,Ac];have:decide ((i:Int)<3)=true:=by simp;omega
  simp only[this,Aa,Uh];have aa:=c3.at t P (by show ¬v1=ar;omega);have ld:∀k:EV->R,Fw (.ptr v1 1) u k=k (I g.Z):=fun k=>Ah aa rfl rfl
  obtain⟨a0,a1⟩:=Oi (a:=(i:Int)) (b:=g.Z) (A:=3) (B:=64) (by omega) (by omega) (by omega) (by omega);simp only[ld,I,Ac];rw[Ci,Ci];have d1:=Aje s (i:=i) (k:=0) (by omega) (by omega) (by omega);have d2:=Aje s (i:=i) (k:=1) (by omega) (by omega) (by omega);rw[Int.add_zero]at d1;have so:=Bty (K:=K) Y C E W p (v:=i*g.Z) (w:=i*g.Z+1) (.inr d1) (.inr d2) (by omega);simp only[I]at so;refine so.Am ?_;rintro _ h4 ⟨rfl,M4,G,c4,H⟩;simp only[Ua,Ac];rw[Ci,show((i:Nat):Int)+1=((i+1:Nat):Int) by omega];exact V h4 M4 H G (c3.trans c4)
 obtain⟨K',rfl⟩:∃k,K=k+4:=⟨K-4,by omega⟩;refine st 0 h2 _ _ _ (by omega) M2 t ga (As.refl _) fun u Y C E c3=>st 1 u _ _ _ (by omega) Y C E c3 fun h4 M4 H G c4=>st 2 h4 _ _ _ (by omega) M4 H G c4 fun h5 M5 x J c5=>?_
 rw[Di];simp only[I,Ac];simp only[show decide (((2+1:Nat):Int)<3)=false from rfl,Aa,Mt];have ad:=c5.at t P (by show ¬v1=ar;omega);rw[Cz ad rfl,Aj (n:=6) rfl]
 try simp only[Aa]
 rw[show EV.agg (gL g)=gV g from rfl,N2 s,Aq];obtain⟨n,hn⟩:=aZ (show 0<=g.D*g.Z by omega);rw[hn];obtain⟨h6,e_,T,_,_⟩:=nW h5 (.cells (gL g) 23);rw[e_];have O:=T.hb x;have cc:Ol (Ol (Ol (fun _=>-1) 0 ((0:Nat)*g.Z)) 1 ((1:Nat)*g.Z)) 2 ((2:Nat)*g.Z)=Vi g:=by
  unfold Vi;rw[show(((0:Nat):Int))*g.Z=0 from Int.zero_mul _,show(((1:Nat):Int))*g.Z=g.Z from Int.one_mul _];rfl
 have co:Ol (Ol (Ol (fun _=>-1) 0 ((0:Nat)*g.Z+1)) 1 ((1:Nat)*g.Z+1)) 2 ((2:Nat)*g.Z+1)=Vg g:=by
  unfold Vg;rw[show(((0:Nat):Int))*g.Z=0 from Int.zero_mul _,show(((1:Nat):Int))*g.Z=g.Z from Int.one_mul _];rfl
 rw[cc,co]at J;have M6:=(M5.ext x T).less (F':=fun i=>i<L\/i=b\/i=ml\/i=ll\/i=ar) fun j hj=>Or.inl hj
 refine A7l (S0:=Mi.new g) (cur:=Vi g) (Cv:=Vg g) (h0:=h6) A hK hd (n:=n) (by omega) W (fun _=>rfl) (K'+4) 0 h6 (by omega) (by omega) M6 O (T.at x J) (As.refl _) fun h7 M7 k7 ah=>?_
 have ca:As (fun j=>j=ar) h2 h6:=c5.trans (Ext.to T);have kp:∀i o,i<ar->(i<L\/i=b\/i=ml\/i=ll)->h.get i=some o->h7.get i=some o:=fun i o p hf e=>k7.at O (ca.at t (U.at hb e) (by show ¬i=ar;omega)) (by
  rcases hf with y|y|y|y
  ·exact .inl y
  ·exact .inr (.inl y)
  ·exact .inr (.inr (.inl y))
  ·exact .inr (.inr (.inr (.inl y))))
 refine V h7 ar hL ?_ (k7.at O (T.at x J) W) ⟨kp _ _ l3 (.inr (.inl rfl)) mp.map,kp _ _ l4 (.inr (.inr (.inl rfl))) mp.row,kp _ _ l5 (.inr (.inr (.inr rfl))) mp.live,mp.len,mp.ok⟩ ?_ ah
 ·show Dd h7 m ((Mi.new g).Akf (Vi g) (Vg g) (g.D*g.Z).toNat) _
  rw[hn];exact M7
 ·refine(Ext.kf U).trans ((ca.mono fun i p y=>?_).trans (k7.less fun i p=>.inl p))
  have y:i<L:=y;have p:i=ar:=p;omega
theorem A7s(A:By disp)(hK:10000<K)(hd:23<=d)(g:Gm)(hb:HB h):Ok (Ag TT disp K d false 30 [gV g] h) fun v h'=>Kf (fun i=>i<h.next) h h'/\HB h' /\
 (v=.Bw\/∃B Y,v=.ptr B.c 0/\Cy h' B Y (fun i=>i<h.next)/\h.next<=B.c/\Y.S.g=g/\Y.S.evs<=0):=by
 obtain⟨e,rfl⟩:∃k,d=k+1:=⟨d-1,by omega⟩;rw[Af8 A (by omega)];simp only[Yw,gV,Aa];obtain⟨h1,e_,x1,g1,n1⟩:=nW h (.cells (gL g) 23);rw[e_];have ag:=x1.hb hb;rw[Cz g1 rfl,Aj (n:=6) rfl]
 try simp only[Aa]
 rw[show EV.agg (gL g)=gV g from rfl];refine(Bkh g (by omega) h1).Am ?_;rintro _ h3 ⟨rfl,x3⟩;have E:=x3.hb ag;have aa:Ext h h3:=x1.trans x3;have cb:D6 (.tuple []) false=false/\D6 (.tuple []) true=false:=⟨rfl,rfl⟩;cases hr:rtB g with
 | false=>
  simp only[Aa,Ac,Hu];exact .ret ⟨Ext.kf aa,E,.inl rfl⟩
 | true=>
 have s:=Uy hr;have:=s.d0;have:=s.d1;have:=s.z0;have:=s.z1;have:=s.s0;have:=s.s1;have:=s.o0;have:=s.o1;obtain⟨m0,m1⟩:=Oi (a:=g.D) (b:=g.Z) (A:=8) (B:=64) (by omega) (by omega) (by omega) (by omega);have m2:3<=g.D*g.Z:=by
  have:3*1<=g.D*g.Z:=Int.mul_le_mul (by omega) (by omega) (by omega) (by omega);omega
 have J:=x3.at ag g1;simp only[Aa,Ac,C0 J rfl,gL,I];rw[Ci];by_cases ai:64<g.D*g.Z
 ·simp only[ai,aB,Aa,Ac,Hu]
  exact .ret ⟨Ext.kf aa,E,.inl rfl⟩
 simp only[ai,aA,Aa,Ac,Hu,Sv,Ar];have l3:=E _ _ J;rw[G2 l3,Cz J rfl,Aj (n:=6) rfl]
 try simp only[Aa,Ar]
 rw[show EV.agg (gL g)=gV g from rfl];refine Ok.bE (P:=fun v h'=>v=I (g.D*g.Z)/\Ext h3.lift h') ⟨_,_,N2 s _,rfl,As.new _ _⟩ (fun _ _ p=>p.2) ?_;rintro _ _ h4 ⟨rfl,_⟩ _ x4;have ab:=x4.hb E;have ad:=x4.at E J;rw[G2 l3,Ah ad rfl (v:=I g.S) rfl]
 try simp only[Aa,Ar]
 rw[G2 l3,Ah ad rfl (v:=I g.O) rfl]
 try simp only[Aa,Ar]
 have a7:Aqw (g.D*g.Z) g.S g.O=true:=by
  unfold Aqw;rw[On.2 ⟨by omega,by omega⟩,On.2 ⟨by omega,by omega⟩,On.2 ⟨by omega,by omega⟩];rfl
 refine Ok.bE (A6u (K:=K) a7 (by omega) (Db ab)) (fun _ _ p=>by obtain⟨_,_,_,_,_,_,x,_⟩:=p;exact x) ?_;rintro _ cc h5 ⟨D,V,M,a8,z,rfl,_,_,dr,nd⟩ sm x5;have G:=x5.hb ab;have dr:=dr.ext (h':=h5) fun i o g=>by rw[sm.get];exact g
 have ae:=x5.at ab ad;have cf:h4.lift.next=h4.next:=rfl
 simp only[Aa,I,Ac,aC,aA,Su,Ar];have l5:=G _ _ ae;rw[G2 l5,Cz ae rfl,Aj (n:=6) rfl]
 try simp only[Aa,Ar]
 rw[Aru (v:=U0) (by kernel_rfl) (by kernel_rfl) rfl];have bb:Ah1 h5.lift D V M a8 (g.D*g.Z).toNat z (fun _=>0) g.S g.O 0 false .Al .Al [] (fun _=>Zn.empty):=dr.ext fun i o g=>by rw[Br];exact g
 rw[show EV.agg (gL g)=gV g from rfl];refine Ok.bE (A31 (K:=K) (g:=g) (by omega) (Db G) bb) (fun _ _ p=>p.1) ?_;rintro v bf h6 ⟨_,_,hv⟩ bj x6;have T:=x6.hb G;rw[aQ ⟨hr,by omega,rfl⟩]at hv;obtain⟨m,p,bl,ql,q,c,rfl,MA,PA,nm⟩:=hv;have k6:∀i o,bf.get i=some o->h6.get i=some o:=fun i o g=>by rw[bj.get];exact g
 have t1:=x1.next;have t3:=x3.next;have t4:=x4.next;have t5:=x5.next;have t6:=x6.next
 have cB:h5.lift.next=h5.next:=rfl
 have M6:=Bpa s (h0:=h4) T (dr.ext fun i o g=>x6.at G g) ⟨⟨by omega,by omega⟩,by omega,by omega,nd.2.2.2⟩ (MA.ext k6) (PA.ext k6) ⟨⟨by omega,by omega⟩,by omega,by omega,fun d hd=>by have:=nm.2.2.2 d hd;omega⟩ (by omega);have al:=x6.at G ae;simp only[Aa,I,Ac];rw[Cz al rfl,Aj (n:=6) rfl]
 try simp only[Aa]
 rw[show EV.agg (gL g)=gV g from rfl];refine(Aw5 (K:=K) hr T).Am ?_;rintro _ h7 ⟨b,ml,ll,rfl,mp,x7,U,lb,c6,c7⟩;simp only[Aa,I,Ac,aC,aA,Tb];have c8:=U _ _ mp.map;have c9:=U _ _ mp.row;have da:=U _ _ mp.live;have M7:Dd h7 m (Mi.new g) (fun i=>i<h4.next\/i=b\/i=ml\/i=ll):=(M6.ext T x7).less fun i j=>by
  rcases j with j|j|j|j
  ·exact .inl j
  ·exact .inr ⟨by omega,by omega⟩
  ·exact .inr ⟨by omega,by omega⟩
  ·exact .inr ⟨by omega,by omega⟩
 have bo:Ext h h7:=(((aa.trans x4).trans x5).trans x6).trans x7;refine A3s (K:=K) A hK (d:=e) (by omega) hr U (v1:=h.next) (L:=h4.next) (x7.at T al) mp ⟨by omega,by omega,by omega⟩ M7 (by omega) fun H ar dc M8 ao W k8 t=>?_
 simp only[F3,dr];rw[Aw (l:=[I 0,I 1,I 1]) rfl]
 try simp only[Aa]
 rw[Ban,Aq];have x9:Ext H ((H.new (.cells [I 0,I 1,I 1] 104)).new (.cells [.ptr m 0,.ptr ar 0,.ptr b 0,I 0,I 1,I 1,.bool false] 130)):=(As.new _ _).Da _;have g9:((H.new (.cells [I 0,I 1,I 1] 104)).new (.cells [.ptr m 0,.ptr ar 0,.ptr b 0,I 0,I 1,I 1,.bool false] 130)).get (H.next+1)=some (.cells [.ptr m 0,.ptr ar 0,.ptr b 0,I 0,I 1,I 1,.bool false] 130):=Ad _ _;generalize (H.new (.cells [I 0,I 1,I 1] 104)).new (.cells [.ptr m 0,.ptr ar 0,.ptr b 0,I 0,I 1,I 1,.bool false] 130)=h9 at x9 g9⊢;have aq:=x9.hb t;have l9:=aq _ _ g9;have e2:(Co.start g).S.g=g:=(Akr (Vi g) (Vg g) (Mi.new g) (g.D*g.Z).toNat).2.1;have dg:=t _ _ ao;have di:=t _ _ W.map;have dj:=t _ _ W.row;have dm:=t _ _ W.live;have t8:=k8.next
 have M9:=M8.ext t x9;have au:Kf (fun i=>i<h.next) h h9:=(Ext.kf bo).trans ((k8.trans (Ext.kf x9)).mono fun i j y=>j (by have y:i<h.next:=y;show i<h4.next;omega));have C9:Cy h9 ⟨H.next+1,ar,m,b,ml,ll⟩ (Co.start g) (fun i=>i<h.next):=by
  refine⟨M9.less fun i j=>?_,g9,x9.at t ao,?_,Co.Bkq hr,fun i j y=>?_,aq⟩
  ·rcases j with j|j|j|j|j|j
   ·exact .inl (.inl (show i<h4.next by have j:i<h.next:=j;omega))
   ·exact .inr ⟨by have j:i=H.next+1:=j;omega,by have j:i=H.next+1:=j;omega⟩
   ·exact .inl (.inr (.inr (.inr (.inr j))))
   ·exact .inl (.inr (.inl j))
   ·exact .inl (.inr (.inr (.inl j)))
   ·exact .inl (.inr (.inr (.inr (.inl j))))
  ·show L0 h9 b ml ll (Co.start g).S.g _
   rw[e2];exact W.ext fun i o g=>x9.at t g
  ·have j:i<h.next:=j
   rcases y with y|y|y|y|y
   ·have y:i=H.next+1:=y;omega
   ·have y:i=ar:=y;omega
   ·have y:i=b:=y;omega
   ·have y:i=ml:=y;omega
   ·have y:i=ll:=y;omega
 try simp only[Aa]
 refine Ok.Am (Og A hK C9 (d:=e) (by omega)) ?_;rintro _ dw ⟨e10,Y,rfl,u⟩;have eg:Y.S.g=g:=u.ck.g.trans e2;have es:(Co.start g).S.evs<=0:=by
  unfold Mi.evs;rw[show(Co.start g).S.dr=(Mi.new g).dr from(Akr (Vi g) (Vg g) (Mi.new g) (g.D*g.Z).toNat).2.2];exact aD _
 have ev:Y.S.evs<=0:=by
  show Y.S.dr.ev.length+Y.S.dr.Pu.length<=_;rw[u.ck.dr.ev];exact es
 simp only[I,Ac];by_cases k0:e10=0
 ·simp only[k0,aC,aA,Aa,Ud]
  exact .ret ⟨au.trans u.k,u.hb,.inr ⟨⟨H.next+1,ar,m,b,ml,ll⟩,Y,rfl,u.C,by show h.next<=H.next+1;omega,eg,ev⟩⟩
 ·simp only[k0,aE,aB,Aa]
  exact .ret ⟨au.trans u.k,u.hb,.inl rfl⟩
structure Ahj where
 kind:Int
 x:Int
 y:Int
 ev:Lo
def Ahj.cells(o:Ahj):List EV:=[I o.kind,I o.x,I o.y]++o.ev.cells
theorem Ahj.len {o:Ahj}(w:o.ev.Wf):o.cells.length=71:=by
 unfold Ahj.cells;rw[aG,Lo.Ba w];rfl
theorem Bor {o:Ahj}(w:o.ev.Wf):Mu o.cells 3 68=some o.ev.cells:=by
 have e:o.cells = [I o.kind,I o.x,I o.y]++o.ev.cells:=rfl;rw[e,E7 (by rw[aG,Lo.Ba w];exact aD _),show(3:Nat) = [I o.kind,I o.x,I o.y].length from rfl,dG,<-Lo.Ba w,cL]
theorem A66{v1:Nat}{o:Ahj}(a:h.get v1=some (.cells o.cells 62))(k:EV->R):Fw (.ptr v1 0) h k=k (I o.kind)/\Fw (.ptr v1 1) h k=k (I o.x)/\Fw (.ptr v1 2) h k=k (I o.y):=⟨Ah a rfl rfl,Ah a rfl rfl,Ah a rfl rfl⟩
def DoS(h:Ab)(B:Cb)(X:Co)(F:Nat->Prop)(q:Nat)(s:Sb)(kind:Int):EV->Ab->Prop:=fun v h'=>
 ∃(ok:Bool) (e:Int) (Y:Co) (s':Sb),v=.tuple [.bool ok,I e]/\Cy h' B Y F/\Y.S.g=X.S.g/\Y.S.evs<=X.S.evs+1/\As (fun i=>¬F i\/i=q) h h'/\Ri h' q B.c s' /\
  ((ok=false/\s'=s/\(¬kind=5\/e=34))\/(kind=5/\¬e=34/\∃(de:Bool) (ba:Int),s'=s.next X.S.g.B ok de (if s.cu=0 then s.st+1 else s.be) ba/\ok=(decide ((s.cu+1)%(X.S.g.B+3)=0)&&!de)))
theorem Bkl {Y:Co}(k:Ck X Y):Y.S.evs<=X.S.evs+1:=by
 show Y.S.dr.ev.length+Y.S.dr.Pu.length<=_;rw[k.dr.ev];exact fM _
theorem Bul(n:Int):Cx .u8 n=Int.ofNat (wb n):=by
 rw[Nr];unfold wb;have a:IntKind.u8.wrap n=n%256:=rfl;rw[a];show _=(((n%256).toNat:Nat):Int);omega
theorem Brd(A:By disp)(E:disp 105=some Bbl)(U:disp 27=some (Ac4 F27))(hK:3000000<K){s:Sb}(C:Cy h B X F)(fq:F q)(g:Ri h q B.c s)(c0:0<=s.cu)(c1:s.cu<X.S.g.B+3)(t0:0<=s.st)(t1:s.st<1000)
 {o:Ahj} (w:o.ev.Wf) (hv:X.S.evs<=199) (hd:33<=d) (cur:∀e,d-5<=e->Awd disp K e) :
 Ok (Ag TT disp K d false 32 [.agg o.cells,.ptr B.c 0,.ptr q 0] h) (DoS h B X F q s o.kind):=by
 obtain⟨e,rfl⟩:∃k,d=k+1:=⟨d-1,by omega⟩;rw[Ajw A (by omega)];simp only[Ach,Aa];have ol:=Ahj.len w;obtain⟨u,V,x1,G,n1⟩:=nW h (.cells o.cells 62);rw[V];have t:=C.Yx x1;have gq:=t.sb C.hb fq g;have e0:∀k:EV->R,Fw (.ptr h.next 0) u k=k (I o.kind):=fun k=>(A66 G k).1
 have e1:∀k:EV->R,Fw (.ptr h.next 1) u k=k (I o.x):=fun k=>(A66 G k).2.1
 have e2:∀k:EV->R,Fw (.ptr h.next 2) u k=k (I o.y):=fun k=>(A66 G k).2.2
 have still:∀{h':Ab} {Y:Co} {J:Int},¬o.kind=5->E0 h h' B X F Y->DoS h B X F q s o.kind (.tuple [.bool false,I J]) h':=fun Z c=>
  ⟨false,_,_,s,rfl,c.C,c.ck.g,Bkl c.ck,As.mono c.k fun i y=>.inl y,c.sb C.hb fq g,.inl ⟨rfl,rfl,.inl Z⟩⟩
 have fin:∀{x:R},¬o.kind=5->Eb x u B X F->Ok (Am x fun v h=>some (.tuple [.bool false,v],h)) (DoS h B X F q s o.kind):=fun Z a=>by
  refine Ok.Am a ?_;rintro _ h' ⟨e,Y,rfl,c⟩;exact .ret (still Z (t.trans c))
 rw[e0];simp only[I,Ac];by_cases k1:o.kind=1
 ·rw[aJ k1]
  simp only[Aa,Ar];have lt:h.next<u.next:=by omega
  rw[G2 lt,e1]
  try simp only[Aa,Ar]
  rw[G2 lt,e2];simp only[Aa,Ar,I,A51];rw[Bul];refine Ok.bE (Bmz (K:=K) (by omega) (wb o.y) t.C.lift.hb) (fun _ _ p=>p.2.1) ?_;rintro _ aa h2 ⟨rfl,xf,ay⟩ sm x2;have O:=t.trans (t.C.Yx x2);have wf:(⟨o.x,List.replicate 32 (wb o.y)⟩:Wr).Wf:=⟨bT,fun b hb=>by rw[bc hb];exact Buk _⟩;rw[show EV.int .i64 o.x=I o.x from rfl,Aw (Bsl _ (by simp))];generalize (⟨o.x,List.replicate 32 (wb o.y)⟩:Wr)=W at wf⊢;simp only[Aa,Ar];rw[S7 (v:=.agg W.cells) rfl (by simp) (Wr.len wf) (by omega),Aq];have az:=O.hb;obtain⟨H,V,P,g3,n3⟩:=nW h2 (.cells (EV.cells (.agg W.cells)) 112);rw[V];have q3:=O.trans (O.C.Yx P);have C3:Cy H.lift B X (fun i=>F i\/i=h2.next):=by
   refine((O.C.ext P).less fun i hi=>?_).lift;rcases hi with hi|rfl
   ·exact .inl hi
   ·exact .inr ⟨by omega,by omega⟩
  have WA:Ax8 H.lift (.slice h2.next 0 1 1 false) h2.next [W]:=by
   refine⟨.inr ⟨0,1,false,rfl,fun j hj k=>?_⟩,fun x hx=>by rw[aP.1 hx];exact wf⟩;have:j=0:=by simpa using hj
   subst this;have ae:H.lift.get h2.next=some (.cells W.cells 112):=by rw[Br];exact g3
   exact Cp ae rfl (Aj (Wr.len wf))
  refine Ok.bC (S:=fun j=>¬(F j\/j=h2.next)) (A3m A hK (F:=fun i=>F i\/i=h2.next) (fun _=>.inr rfl) (by simp) (d:=e) (by omega) C3 WA) (fun _ _ p=>by obtain⟨_,_,_,c⟩:=p;exact c.k) ?_;rintro _ bf h4 s' ⟨J,Y,rfl,c4⟩ af ag bj;have c5:E0 H h4 B X F Y:=⟨(c4.C.same af).less fun _=>.inl,Kf.less (F:=fun j=>F j\/j=h2.next) ag fun _=>.inl,c4.ck⟩;exact .ret (still (by omega) (q3.trans c5))
 simp only[k1,aA,Aa];by_cases k2:o.kind=2
 ·rw[aJ k2]
  simp only[Aa];rw[e1];exact fin (by omega) (A79 A (by omega) t.C (d:=e) (by omega) _ 1)
 rw[aI k2];simp only[Aa];by_cases k3:o.kind=3
 ·rw[aJ k3]
  simp only[Aa];rw[e1];refine Ok.Am (A60 A (by omega) t.C (d:=e) (by omega) _) ?_;rintro _ h2 ⟨bl,e4,Y,rfl,ah,c2⟩;simp only[Aa];refine Ok.mk (by simp) (by rw[Bg,ah]) fun H P _ _=>?_
  have c2:=t.trans c2;exact .ret (still (by omega) (c2.trans (c2.C.Yx P)))
 rw[aI k3];simp only[Aa];by_cases k4:o.kind=4
 ·rw[aJ k4]
  simp only[Aa];exact fin (by omega) (Og A (by omega) t.C (d:=e) (by omega))
 rw[aI k4];simp only[Aa];by_cases T:o.kind=5
 ·rw[aJ T]
  simp only[Aa];refine Ok.Am (A3x A (by omega) U t.C fq gq c0 c1 t0 t1 (d:=e) (by omega) fun k hk=>cur k (by omega)) ?_;rintro _ h2 ⟨ok,J,Y,s',rfl,C2,ck,x2,g2,_,w2⟩;simp only[Aa];refine .ret ⟨ok,J,Y,s',rfl,C2,ck.g,Bkl ck,(As.mono t.k fun i y=>.inl y).trans x2,g2,?_⟩;rcases w2 with⟨a,b,c⟩|⟨a,b⟩
  ·exact .inl ⟨b,c,.inr a⟩
  ·exact .inr ⟨T,a,b⟩
 rw[aI T];simp only[Aa];by_cases k6:o.kind=6
 ·rw[aJ k6]
  simp only[Aa,Ar];have l1:=t.hb _ _ G;rw[Af2 (v:=.ptr B.m 0) (by simp only[Du,Aa];rw[t.C.lift.ldM])];obtain⟨D,dd,dp⟩:=Boy (K:=K) A E (by omega) t.C.lift.M t.C.lift.hb w hv;rw[Af2 dd]
  try simp only[Aa,Ar]
  rw[G2 (show h.next<u.next by omega),Cp G rfl (Bor w)]
  try simp only[Aa,Ar]
  refine Ok.bC (S:=fun i=>¬B.fr F i) (dp (d:=e) (by omega)) (fun _ _ p=>by obtain⟨_,_,_,a,_⟩:=p;exact a) ?_;rintro _ aa h2 s' ⟨l,hl,M',_,ai⟩ sm ch bu;simp only[Pc,dr];have p:=t.C.Bq2 hl (M'.same sm) ch (sm.hb ai);have gp:Ri h2 q B.c s:=by
   show h2.get q=_;rw[p.k.get _ (t.hb _ _ gq) fun w=>w fq];exact gq
  exact .ret ⟨false,0,_,s,rfl,p.C,p.g,p.ev,As.mono (t.k.trans p.k) fun i y=>.inl y,gp,.inl ⟨rfl,rfl,.inl (by omega)⟩⟩
 rw[aI k6];simp only[Aa,Pc,dr];exact .ret (still T t)
variable {o:Ahj}
theorem Bus(a b:Bool)(k:EV->R):J1 Alb (bin TT .neq 4) (.bool a) (.bool b) k=k (.bool (a != b)):=by
 have e:bin TT .neq 4 (.bool a) (.bool b)=some (.bool (a != b)):=by cases a<;>cases b<;>kernel_rfl
 show oB k (bin TT .neq 4 (.bool a) (.bool b))=_;rw[e];rfl
structure Aup(h:Ab)(v:EV)(b:Nat)(L:List Ahj):Prop where
 row:(L = []/\lenOf v=some 0)\/∃off r op,v=.slice b off L.length r op/\∀j (hj:j<L.length) (k:EV->R),Qp 71 (.ptr b (off+j*71)) h k=k (.agg L[j].cells)
 wf:∀o∈L,o.ev.Wf
theorem Aup.frame {h':Ab}{L:List Ahj}(r:Aup h v b L)(e:0<L.length->h'.get b=h.get b):Aup h' v b L:=by
 refine⟨?_,r.wf⟩;rcases r.row with y|⟨off,a,op,rfl,y⟩
 ·exact .inl y
 ·refine .inr ⟨off,a,op,rfl,fun j hj k=>?_⟩
  have:=y j hj k;show oB _ (Awa (h'.get b) _ 71)=_;rw[e (by omega)];exact this
theorem Aup.Hf{L:List Ahj}(r:Aup h v b L)(k:EV->R):Ev.Hf v k=k (I L.length):=by
 rcases r.row with⟨rfl,y⟩|⟨off,a,op,rfl,_⟩
 ·unfold Ev.Hf;rw[y];rfl
 ·rfl
theorem Aup.at{L:List Ahj}(r:Aup h v b L){j:Nat}(hj:j<L.length)(k:EV->R):Zl 71 v (.int .i64 (j:Int)) (fun p=>Qp 71 p h k)=k (.agg L[j].cells):=by
 rcases r.row with⟨rfl,_⟩|⟨off,a,op,rfl,y⟩
 ·exact absurd hj (cn _)
 ·rw[Od hj];exact y j hj k
structure Lp(h:Ab)(B:Cb)(X:Co)(F:Nat->Prop)(q v2 v10:Nat)(s:Sb)(g:Gm):Prop where
 C:Cy h B X F
 fq:F q
 f2:F v2
 f10:F v10
 gq:Ri h q B.c s
 g2:h.get v2=some (.cells (gL g) 23)
 g10:h.get v10=some (.cells [I s.l0,I s.l1] 71)
 eg:X.S.g=g
 c0:0<=s.cu
 c1:s.cu<X.S.g.B+3
theorem Ba6(A:By disp)(W:disp 105=some Bbl)(au:disp 27=some (Ac4 F27))(hK:3000000<K)(hd:33<=d)(cur:∀e,d-5<=e->Awd disp K e){L:List Ahj}(hL:L.length<=120){O v10:Nat}(fo:0<L.length->F O/\O≠q/\O≠v10){N:Nat}(hN:∀j,j<N->F j/\j≠q/\j≠v10):
 ∀(f i:Nat) (h:Ab) (X:Co) (s:Sb),L.length-i<f->i<=L.length->Lp h B X F q v2 v10 s g->0<=s.st->s.st<=i->X.S.evs<=i->Aup h vo O L ->
 Ok (Bt (Ag TT disp K d false) (Ag TT disp K d true) K f (.ptr v2 0) (.ptr B.c 0) (.ptr q 0) (I s.cu) (I s.st) (I s.be) (.ptr v10 0) vo (I L.length) (I i) h) fun v h'=>v=.bool true/\∀j,j<N->h'.get j=h.get j:=by
 intro f;induction f with
 | zero=>intro i h X s hf;omega
 | succ f ih=>
  intro i h X s hf hi P t0 t1 hv Ro;rw[Bt];simp only[I,Ac];by_cases Z:i<L.length
  case neg=>
   have:decide ((i:Int)<(L.length:Int))=false:=by simp;omega
   simp only[this,Aa,Pw,dr];exact .ret ⟨rfl,fun _ _=>rfl⟩
  have:decide ((i:Int)<(L.length:Int))=true:=by simp;omega
  simp only[this,Aa,Po];rw[Ro.at Z];have w:=Ro.wf _ (av Z);generalize L[i]=o at w⊢;have ol:=Ahj.len w
  try simp only[Aa]
  refine Ok.mk (by simp) ol fun h1 U gv n1=>?_
  have hb:=P.C.hb;have C1:=(P.C.Yx U).C;rw[Cp gv rfl (Aj ol)]
  try simp only[Aa]
  have ax:Cy h1 B X (fun j=>F j\/j=h.next):=(P.C.ext U).less fun j hj=>by
   rcases hj with hj|rfl
   ·exact .inl hj
   ·exact .inr ⟨aD _,by omega⟩
  refine Ok.Am (Brd A W au hK (F:=fun j=>F j\/j=h.next) ax (.inl P.fq) (U.at hb P.gq) P.c0 P.c1 t0 (by omega) w (by omega) hd cur) ?_;rintro _ h2 ⟨ok,e,Y,s',rfl,ay,aa,b7,x2,p,D⟩;have C2:Cy h2 B Y F:=ay.less fun _=>.inl
  have lq:=hb _ _ P.gq;have az:h2.get h.next=some (.cells o.cells 62):=by
   rw[x2.get _ (by omega) fun y=>by rcases y with y|y;exact y (.inr rfl);omega];exact gv
  have H:∀{j:Nat} {ob:Ca},h.get j=some ob->F j->j≠q->h2.get j=some ob:=fun {j ob} gj fj nj=>by
   have:=hb _ _ gj;rw[x2.get _ (by omega) fun y=>by rcases y with y|y;exact y (.inl fj);exact nj y,U.get _ this id];exact gj
  have u:=H P.g2 P.f2 (Ay P.g2 P.gq (by simp));have m:=H P.g10 P.f10 (Ay P.g10 P.gq (by simp));have T:Aup h2 vo O L:=Ro.frame fun y=>by
   obtain⟨a,b,_⟩:=fo y;have lb:=P.C.M.lt _ (.inl a);rw[x2.get _ (by omega) fun z=>by rcases z with z|z;exact z (.inl a);exact b z,U.get _ lb id]
  have gB:Y.S.g=g:=aa.trans P.eg;have k2:∀j,j<N->h2.get j=h.get j:=fun j hj=>by
   obtain⟨a,b,_⟩:=hN j hj;have lb:=P.C.M.lt _ (.inl a);rw[x2.get _ (by omega) fun z=>by rcases z with z|z;exact z (.inl a);exact b z,U.get _ lb id]
  have nx:∀(t:Ab) (J:Sb),Lp t B Y F q v2 v10 J g->0<=J.st->J.st<=(i+1:Nat)->Aup t vo O L->(∀j,j<N->t.get j=h.get j) ->
   Ok (Gg (Ag TT disp K d false) (Ag TT disp K d true) K (Bt (Ag TT disp K d false) (Ag TT disp K d true) K f) (.ptr v2 0) (.ptr B.c 0) (.ptr q 0) (I J.cu) (I J.st) (I J.be) (.ptr v10 0) vo (I L.length) (I i) t) fun v h'=>v=.bool true/\∀j,j<N->h'.get j=h.get j:=fun t J V u0 u1 R3 k3=>by
   simp only[Gg,dr,I,Ac];rw[Ci,show((i:Nat):Int)+1=((i+1:Nat):Int) by omega];exact(ih (i+1) t Y J (by omega) (by omega) V u0 u1 (by omega) R3).mono fun v h' w=>⟨w.1,fun j hj=>(w.2 j hj).trans (k3 j hj)⟩
  simp only[Aa];rw[Ah az rfl (v:=I o.kind) rfl];simp only[I,Ac];have Pq:s'=s->Lp h2 B Y F q v2 v10 s g:=fun es=>by
   subst es;exact⟨C2,P.fq,P.f2,P.f10,p,u,m,gB,P.c0,by rw[aa];exact P.c1⟩
  have cf:D6 (.tuple []) false=false/\D6 (.tuple []) true=false:=⟨rfl,rfl⟩;have quiet:∀(a:Bool) (x:EV),(a=true\/(a=false/\x=.bool true))->ok=false->s'=s->Ok (Eo (Ag TT disp K d false) (Ag TT disp K d true) K (Bt (Ag TT disp K d false) (Ag TT disp K d true) K f) (.ptr v2 0) (.ptr B.c 0) (.ptr q 0) (I s.cu) (I s.st) (I s.be) (.ptr v10 0) (.bool ok) vo (I L.length) (I i) (.bool a) x h2) fun v h'=>v=.bool true/\∀j,j<N->h'.get j=h.get j:=by
   intro a x ha eo es;have P2:=Pq es;subst eo;have hv:∀k:EV->R,Am7 (.bool a) (.bool true) x k=k (.bool true):=by
    rcases ha with rfl|⟨rfl,rfl⟩<;>intro k<;>rfl
   simp only[Eo,dr,hv];simp only[Aa,Bu];rw[A52 (B:=B) P2.gq,Aq];simp only[I,Ac,aC,aA,Aa,Bu,Pl];rw[A9c (B:=B) P2.gq,Aq];simp only[I,Ac,aC,aA,Aa,Bu,Pg];exact nx h2 s P2 t0 (by omega) T k2
  by_cases k5:o.kind=5
  ·simp only[k5,aC,aA,Aa]
   by_cases E:e=34
   ·rw[aJ E]
    rcases D with⟨a,b,_⟩|⟨_,b,_⟩
    ·exact quiet false _ (.inr ⟨rfl,rfl⟩) a b
    ·exact absurd E b
   ·rw[aI E]
    rcases D with⟨_,_,b|b⟩|⟨_,_,de,ba,es,eo⟩
    ·exact absurd k5 b
    ·exact absurd b E
    simp only[Eo,Aa,Bu];have bb:=P.C.sm.b0;have bf:=P.C.sm.b1;have eX:X.S.g.B=g.B:=by rw[P.eg]
    have c1:=P.c1;have c0:=P.c0;rw[eX]at c1 bb bf es eo;have ae:s'.cu=(s.cu+1)%(g.B+3):=by rw[es];rfl
    have st':s'.st=s.st+1:=by rw[es];rfl
    have bj:s'.de=de:=by rw[es];rfl
    have G:s'.be=(if s.cu=0 then s.st+1 else s.be):=by rw[es];rfl
    have af:s'.l0=if ok=true then s'.be else s.l0:=by rw[es];rfl
    have ag:s'.l1=if ok=true then s'.st else s.l1:=by rw[es];rfl
    have cw:0<=(s.cu+1)%(g.B+3):=Int.emod_nonneg _ (by omega);have cx:(s.cu+1)%(g.B+3)<g.B+3:=Int.emod_lt_of_pos _ (by omega);have J4:∀t,Lp t B Y F q v2 v10 s' g->Aup t vo O L->(∀j,j<N->t.get j=h.get j)->Ok (Jp (Ag TT disp K d false) (Ag TT disp K d true) K (Bt (Ag TT disp K d false) (Ag TT disp K d true) K f) (.ptr v2 0) (.ptr B.c 0) (.ptr q 0) (I s'.cu) (I s'.st) (I s'.be) (.ptr v10 0) vo (I L.length) (I i) t) fun v h'=>v=.bool true/\∀j,j<N->h'.get j=h.get j:=fun t V R3 k3=>by
     have e0:∀k:EV->R,Ap9 2 1 (.ptr v10 0) (.int .i64 0) k=k (.ptr v10 0):=fun k=>Oy (j:=0) (ln:=2) (by omega)
     have e1:∀k:EV->R,Ap9 2 1 (.ptr v10 0) (.int .i64 1) k=k (.ptr v10 1):=fun k=>Oy (j:=1) (ln:=2) (by omega)
     simp only[Jp,dr];rw[Bpf (B:=B) V.gq,Aq];simp only[Aa,e0];rw[Ah V.g10 rfl (v:=I s'.l0) rfl];simp only[I,Ac,aC,aA,Aa,Bu,e1];rw[Ah V.g10 rfl (v:=I s'.l1) rfl];simp only[I,Ac,aC,aA,Aa,Bu,Px];exact nx t s' V (by omega) (by omega) R3 k3
    have J5:Ok (Gc (Ag TT disp K d false) (Ag TT disp K d true) K (Bt (Ag TT disp K d false) (Ag TT disp K d true) K f) (.ptr v2 0) (.ptr B.c 0) (.ptr q 0) (I s'.cu) (I s'.st) (I s'.be) (.ptr v10 0) (.bool ok) vo (I L.length) (I i) h2) fun v h'=>v=.bool true/\∀j,j<N->h'.get j=h.get j:=by
     cases ok with
     | false=>
      simp only[Gc,Aa];refine J4 h2 ⟨C2,P.fq,P.f2,P.f10,p,u,?_,gB,by omega,by rw[gB];omega⟩ T k2;rw[af,ag,aM (by decide),aM (by decide)];exact m
     | true=>
      simp only[Gc,Aa];rw[Aw (l:=[I s'.be,I s'.st]) rfl];refine Ok.st [I s'.be,I s'.st] m rfl rfl rfl ?_;have ah:=C2.hb _ _ m;have x3:As (fun j=>j=v10) h2 (h2.put v10 (.cells [I s'.be,I s'.st] 71)):=As.Ao (S:=fun j=>j=v10) (As.refl h2) (.inl rfl) ah _;have n2:=Ay u m (by simp);have nq:=Ay p m (by simp);refine J4 _ ⟨C2.Afg x3 (fun j y _=>by subst y;exact P.f10) (C2.hb.put ah _),P.fq,P.f2,P.f10,?_,?_,?_,gB,by omega,by rw[gB];omega⟩ (T.frame fun y=>?_) (fun j hj=>by rw[Ae _ (hN j hj).2.2.symm];exact k2 j hj)
      ·show(h2.put v10 _).get q=_
       rw[Ae _ nq.symm];exact p
      ·rw[Ae _ n2.symm];exact u
      ·rw[Af,af,ag,aQ rfl,aQ rfl]
      ·rw[Ae _ (fo y).2.2.symm]
    have J8:∀x:EV,((s.cu+1)%(g.B+3)=0->x=.bool (!de))->Ok (Ge (Ag TT disp K d false) (Ag TT disp K d true) K (Bt (Ag TT disp K d false) (Ag TT disp K d true) K f) (.ptr v2 0) (.ptr B.c 0) (.ptr q 0) (I s'.cu) (I s'.st) (I s'.be) (.ptr v10 0) (.bool ok) vo (I L.length) (I i) (.bool ok) (.bool (decide ((s.cu+1)%(g.B+3)=0))) x h2) fun v h'=>v=.bool true/\∀j,j<N->h'.get j=h.get j:=fun x hx=>by
     have hv:∀k:EV->R,Am7 (.bool (decide ((s.cu+1)%(g.B+3)=0))) x (.bool false) k=k (.bool ok):=fun k=>by
      rw[eo];by_cases z:(s.cu+1)%(g.B+3)=0
      ·rw[hx z,aJ z];rfl
      ·rw[aI z];rfl
     simp only[Ge,dr,hv];rw[Bus,show(ok != ok)=false by cases ok<;>rfl];simp only[Aa,Bu];rw[A52 (B:=B) p,Aq];simp only[I,Ac,aC,aA,Aa,Bu,Jr];rw[A9c (B:=B) p,Aq];simp only[I,Ac,aC,aA,Aa,Bu,Jo];exact J5
    have J9:Ok (Jx (Ag TT disp K d false) (Ag TT disp K d true) K (Bt (Ag TT disp K d false) (Ag TT disp K d true) K f) (.ptr v2 0) (.ptr B.c 0) (.ptr q 0) (I s.cu) (I s'.st) (I s'.be) (.ptr v10 0) (.bool ok) vo (I L.length) (I i) h2) fun v h'=>v=.bool true/\∀j,j<N->h'.get j=h.get j:=by
     simp only[Jx,Aa,I,Ac];rw[Ci,Ah u rfl (v:=I g.B) rfl];simp only[I,Ac];rw[Ci,Bub (by omega) (by omega)];simp only[I,Ac];by_cases z:(s.cu+1)%(g.B+3)=0
     ·have:=J8 (.bool (!de)) fun _=>rfl
      rw[aJ z]at this⊢;simp only[Aa,Bu];rw[Bj0 (B:=B) p,Aq,bj,<-ae];have nb:∀k:EV->R,Alz (.bool de) k=k (.bool (!de)):=fun k=>by cases de<;>rfl
      rw[nb];exact this
     ·have:=J8 (.tuple []) fun y=>absurd y z
      rw[aI z]at this⊢;simp only[Aa,Bu];rw[<-ae];exact this
    simp only[Pm,Aa,I,Ac];rw[Ci,<-st'];by_cases hc:s.cu=0
    ·rw[aQ hc]at G
     rw[aJ hc];simp only[Aa];have e9:=J9;rw[G,<-st']at e9;exact e9
    ·rw[aM hc]at G
     rw[aI hc];simp only[Aa];rw[<-G];exact J9
  ·simp only[k5,aE,aB,Aa]
   rcases D with⟨a,b,_⟩|⟨b,_⟩
   ·exact quiet true _ (.inl rfl) a b
   ·exact absurd b k5
theorem Bta(k:EV->R):J1 Akq (bin TT .eql 26) .Bw .Bw k=k (.bool true):=by
 show oB k (bin TT .eql 26 .Bw .Bw)=_;rw[show bin TT .eql 26 .Bw .Bw=some (.bool true) by kernel_rfl];rfl
theorem Bui(a:Nat)(k:EV->R):J1 Akq (bin TT .eql 26) (.ptr a 0) .Bw k=k (.bool false):=by
 show oB k (bin TT .eql 26 (.ptr a 0) .Bw)=_;rw[show bin TT .eql 26 (.ptr a 0) .Bw=some (.bool false) by kernel_rfl];rfl
theorem Bd9(A:By disp)(u:disp 105=some Bbl)(H:disp 27=some (Ac4 F27))(hK:3000000<K)(hd:33<=d)(cur:∀e,d-5<=e->Awd disp K e)(J:∀h,Ag TT disp K d false 29 [] h=some (.bool true,h))(g:Gm)(hb:HB h){t:Nat}{L:List Ahj}(R0:Aup h vo t L)(M:0<L.length->t<h.next):
 Ok (L5 (Ag TT disp K d false) (Ag TT disp K d true) K (gV g) vo h) fun v h'=>v=.bool true/\∀i,i<h.next->h'.get i=h.get i:=by
 simp only[L5,gV,Aa,J];obtain⟨E,O,V,W,n1⟩:=nW h (.cells (gL g) 23);rw[O];have x:=V.hb hb;simp only[Pp,Aa];rw[Cz W rfl,Aj (n:=6) rfl]
 try simp only[Aa]
 rw[show EV.agg (gL g)=gV g from rfl];refine(A7s (K:=K) A (by omega) (d:=d) (by omega) g x).Am ?_;rintro v h2 ⟨P,C,hv⟩;have ae:D6 (.tuple []) false=false/\D6 (.tuple []) true=false:=⟨rfl,rfl⟩;have k:∀i,i<h.next->h2.get i=h.get i:=fun i a=>by rw[P.get i (by omega) fun y=>y (show i<E.next by omega),V.get i a id]
 have R2:Aup h2 vo t L:=R0.frame fun y=>k t (M y)
 have S:=P.at x W (show h.next<E.next by omega);have t2:=P.next
 rcases hv with rfl|⟨B,Y,rfl,C2,lB,gY,eY⟩
 ·rw[Bta]
  simp only[Aa,Bu,Fz];exact .ret ⟨rfl,k⟩
 rw[Bui];simp only[Aa,Bu];rw[R2.Hf];simp only[I,Ac];by_cases m:120<(L.length:Int)
 ·simp only[m,aB,Aa,Bu,Fz]
  exact .ret ⟨rfl,k⟩
 simp only[m,aA,Aa,Bu,Fz,Pj,Axx];rw[Aw (l:=(⟨0,false,0,0,0,0,0⟩:Sb).cells B.c) rfl];simp only[Aa];have T:Ext h2 (h2.new (.cells ((⟨0,false,0,0,0,0,0⟩:Sb).cells B.c) 146)):=As.new _ _;have Z:Ri (h2.new (.cells ((⟨0,false,0,0,0,0,0⟩:Sb).cells B.c) 146)) h2.next B.c ⟨0,false,0,0,0,0,0⟩:=Ad _ _
 have n3:(h2.new (.cells ((⟨0,false,0,0,0,0,0⟩:Sb).cells B.c) 146)).next=h2.next+1:=rfl
 generalize h2.new (.cells ((⟨0,false,0,0,0,0,0⟩:Sb).cells B.c) 146)=G at T Z n3⊢;have U:=T.hb C;rw[Aw (l:=[I 0,I 0]) rfl];refine Ok.st [I 0,I 0] (Ad _ _) rfl rfl rfl ?_;obtain⟨h4,O,x4,g4,n4⟩:=nP G (.cells [EV.int .i64 0,.int .i64 0] 71) (.cells [I 0,I 0] 71);rw[O];have p:Ext h2 h4:=T.trans x4;have D:∀i,i<h.next->h4.get i=h2.get i:=fun i a=>p.get i (by omega) id
 have R4:Aup h4 vo t L:=R2.frame fun y=>D t (M y)
 rw[R4.Hf];have C4:Cy h4 B Y (fun i=>i<E.next\/i=h2.next\/i=G.next):=(C2.ext p).less fun i a=>by
  rcases a with a|rfl|rfl
  ·exact .inl a
  ·exact .inr ⟨aD _,by omega⟩
  ·exact .inr ⟨by omega,by omega⟩
 have sB:=C4.sm.b0;refine(Ba6 A u H hK hd cur (by omega) (q:=h2.next) (v2:=h.next) (v10:=G.next) (g:=g) (F:=fun i=>i<E.next\/i=h2.next\/i=G.next) (N:=h.next) (fun y=>by have:=M y;exact⟨.inl (by omega),by omega,by omega⟩) (fun j hj=>⟨.inl (by omega),by omega,by omega⟩) K 0 h4 Y ⟨0,false,0,0,0,0,0⟩ (by omega) (by omega) ⟨C4,.inr (.inl rfl),.inl (by omega),.inr (.inr rfl),x4.at U Z,p.at C S,g4,gY,Int.le_refl _,by show(0:Int)<_;omega⟩ (Int.le_refl _) (Int.le_refl _) (by omega) R4).mono ?_;rintro v h' ⟨rfl,w⟩;exact⟨rfl,fun i a=>by rw[w i a,D i a,k i a]⟩
def Bn5(disp:Nat->Option FT)(K d:Nat)(Az7:List (List EV)->Prop):Prop:=∀{h:Ab} {B:Cb} {X:Co} {F:Nat->Prop} {q:Nat} {s:Sb},Cy h B X F->F q->Ri h q B.c s->∀z:Int,Rs z ->
 Ok (Ag TT disp K d false 242 [.ptr q 0,I z] h) fun v h'=>∃(a:EV) (ok:Bool) (e:Int) (Y:Co) (j:Nat) (L:List (List EV)),v=.tuple [a,.bool ok,I e]/\E0 h h' B X F Y/\(¬e=0\/ok=false\/(Cc h' a j 30 64 L.length L.flatten/\Az7 L))/\(X.S.dr.dv.down=true->Y.S.dr.dv.down=true/\(e=34\/e=0/\L = []))
def A65(disp:Nat->Option FT)(K d:Nat)(Az7:List (List EV)->Prop):Prop:=∀{h:Ab} {j:EV} {k:Nat} {L:List (List EV)} (z:Int),Rs z->HB h->Cc h j k 30 64 L.length L.flatten->Az7 L ->
 Ok (Ag TT disp K d false 243 [U0,I z,j] h) fun v h'=>∃(a:Int) (b c p:EV) (e:Int),v=.tuple [.agg [I a,b,c,p],I e]/\Ext h h'/\(L = []->¬e=0)
theorem Bof{ar m:Nat}(e:h.get ar=some (.cells (arC m cur Cv) 212))(a:i<3):T8 K (.ptr ar 0) (I i) h=some (.tuple [I (cur i),I (Cv i)],h):=by
 simp only[T8,dr];rw[Bl5 a,Aq];simp only[Aa,Adm];unfold I;rw[Oy a]
 try simp only[Aa,cz]
 rw[Ah e rfl (Bow a),Oy a]
 try simp only[Aa]
 rw[Ah e rfl (Bli a)]
theorem Brz:TT.size 104=some 3/\TT.agg 104=some true:=⟨by kernel_rfl,by kernel_rfl⟩
theorem Bey(C:Cy h B X F):Ok (So K (.ptr B.c 0) h) fun v h'=>v=.agg [I X.gen,I X.ep,I X.nx]/\Ext h h':=by
 simp only[So,Aa];have gc:(h.new (.cells [.int .i64 0,.int .i64 0,.int .i64 0] 104)).get B.c=some (.cells (X.cells B) 130):=Ext.at (As.new h _) C.hb C.core;rw[Cp gc rfl (l':=[I X.gen,I X.ep,I X.nx]) rfl];refine Ok.st [I X.gen,I X.ep,I X.nx] (Ad _ _) rfl rfl rfl ?_;rw[Q6 (Af _ _ _) Brz.1 Brz.2 rfl];exact .ret ⟨rfl,(As.new h _:Ext _ _).Ao (.inr (aD _)) (aR _) _⟩
theorem Bcj(A:By disp)(hK:10000<K){Az7:List (List EV)->Prop}(hd:22<=d)(Z:Bn5 disp K (d-1) Az7)(hP:A65 disp K (d-1) Az7):Awd disp K d:=by
 intro h B X F q s C fq g j j0 j3;obtain⟨e,rfl⟩:∃k,d=k+1:=⟨d-1,by omega⟩;rw[Aj9 A (by omega)];simp only[Adx,Aa];rw[Ah g rfl rfl];simp only[Acy,Aa];rw[C.G2]
 try simp only[Aa]
 obtain⟨i,rfl⟩:=aZ j0;rw[Bof C.ar (i:=i) (by omega),Aq];have H:Rs (X.cur i):=by
  have bd:=C.sm.Ag4;rcases C.wf.an.cur i (by omega)with y|y
  ·rw[y];exact⟨by omega,by omega⟩
  ·rcases Afi C.sm (X.cur i)with z|⟨d0,d1,d2,d3,d4⟩
   ·omega
   ·exact⟨by omega,by omega⟩
 generalize X.cur i=z at H⊢;simp only[Aa,I,Ac];have ad:D6 (.tuple []) false=false/\D6 (.tuple []) true=false:=⟨rfl,rfl⟩;by_cases T:z = -1
 ·rw[aJ T]
  simp only[Aa,Bu,Lh];exact V7.ret (E0.refl C) fun y=>⟨y,.inr ⟨rfl,rfl⟩⟩
 rw[aI T];simp only[Aa,Bu];rw[Ah g rfl rfl];simp only[Du,Aa];rw[C.ldM]
 try simp only[Aa]
 refine(Je (K:=K) C.M.s C.hb H).Am ?_;rintro _ h2 ⟨rfl,x2⟩;have c2:=C.Yx x2;have g2:=c2.sb C.hb fq g;cases X.S.Jt z with
 | true=>
  simp only[Aa,Lh];exact V7.ret c2 fun y=>⟨y,.inr ⟨rfl,rfl⟩⟩
 | false=>
 simp only[Aa,Lh,Y0];refine Ok.Am (Z c2.C fq g2 z H) ?_;rintro _ J ⟨U,ok,e3,Y,V,L,rfl,O,hL,dn⟩;have c3:=c2.trans O;have g3:=c3.sb C.hb fq g;simp only[Aa,I,Ac];by_cases u:e3=0
 case neg=>
  rw[aJ u];simp only[Aa,Bu,Ld];exact V7.ret c3 fun y=>⟨(dn y).1,(dn y).2.elim .inl fun z=>absurd z.1 u⟩
 rw[aI (show ¬¬e3=0 from fun y=>y u)];simp only[Aa,Bu];cases ok with
 | false=>
  simp only[Aa,Ld];exact V7.ret c3 fun y=>⟨(dn y).1,.inr ⟨rfl,u⟩⟩
 | true=>
 simp only[Aa,Ld,Za];rw[Ah g3 rfl rfl];simp only[Du,Aa];rw[c3.C.ldM]
 try simp only[Aa]
 obtain⟨t,hS⟩:Cc J U V 30 64 L.length L.flatten/\Az7 L:=by
  rcases hL with y|y|y
  ·exact absurd u y
  ·cases y
  ·exact y
 have tb:Ok (Gb K (.ptr B.m 0) J) fun v h'=>v=U0/\Ext J h':=by
  obtain⟨lt,D,p,bl,ql,np,qq,cc,G,a⟩:=c3.C.M.s;exact Ano a.Hi c3.hb
 refine tb.Am ?_;rintro _ h4 ⟨rfl,W⟩;have c4:=c3.trans (c3.C.Yx W);have E:Cc h4 U V 30 64 L.length L.flatten:=t.frame fun y=>W.get _ (c3.hb _ _ (t.block y)) id
 refine(hP z H c4.hb E hS).Am ?_;rintro _ h5 ⟨a,b,c,p,er,rfl,x5,ne⟩;have c5:=c4.trans (c4.C.Yx x5);simp only[Aa];refine Ok.mk rfl rfl fun h6 x6 g6 n6=>?_
 have x:=c5.trans (c5.C.Yx x6);have gs:=x.sb C.hb fq g;have ls:=x.hb _ _ gs;simp only[I,Ac];by_cases P:er=0
 case neg=>
  rw[aI P];simp only[Aa,Bu,Lg];exact V7.ret x fun y=>⟨(dn y).1,.inr ⟨rfl,rfl⟩⟩
 rw[aJ P];simp only[Aa,Bu];rw[G2 (show h5.next<h6.next by omega),Ah g6 rfl (v:=I a) rfl]
 try simp only[Aa,Ar]
 rw[G2 ls,Ah gs rfl rfl]
 try simp only[Aa,Ar]
 refine Ok.bE (Bey (K:=K) x.C.lift) (fun _ _ p=>p.2) ?_;rintro _ au h7 ⟨rfl,_⟩ sm x7;simp only[Aa,I,Ac,Lg];exact V7.ret (x.trans (x.C.Yx x7)) fun y=>⟨(dn y).1,absurd P (ne ((dn y).2.elim (fun z=>absurd (u.symm.trans z) (by decide)) fun z=>z.2))⟩
theorem A75(A:By disp)(hK:10000<K)(C:Cy h B X F)(hd:17<=d)(z off:Int){k:EV->Ab->R}
 (t:∀(l:List EV) (e:Int) h' Y,l.length=64->U8 l->E0 h h' B X F Y->(X.S.dr.dv.down=true->e=34/\Y.S.dr.dv.down=true)->Ok (k (.tuple [.agg l,I e]) h') Q) :
 Ok (Am (Bn K (.ptr B.m 0) h) fun v h=>Am (Ag TT disp K d false 227 [v,I z,I off] h) k) Q:=by
 obtain⟨lt,D,p,bl,ql,np,U,W,G,a⟩:=C.M.s;rw[Qu a.Hi,Aq];refine Ok.Am (Aym (K:=K) A (d:=d) (by omega) (fun k t=>A0o A (by omega) X.S.dr k t) a.drv C.hb z off) ?_;rintro _ h' ⟨rfl,hlen,d2,c2,u⟩;have x:U8 (X.S.dr.read z off).2.1:=by
  obtain⟨V,H,qc,qh,cs,hs,ms,F',J⟩:=d2.Mw;have w:=J.dev.wf;have O:∀i,i<(X.S.dr.begin z).dv.n->((X.S.dr.begin z).dv.zs i).Wf (X.S.dr.begin z).dv.size:=by
   have e1:(X.S.dr.read z off).1.dv=(X.S.dr.begin z).dv.begin z:=rfl;rw[e1]at w;unfold Dv.begin at w;split at w
   ·exact w.zs
   ·exact w.zs
  show U8 (Dv.read _ z off).1;unfold Dv.read;split
  ·exact U8.zs
  ·rename_i E
   obtain⟨j,rfl,hj⟩:=Dv.A14 (show(X.S.dr.begin z).dv.Er z=0 by
    rcases Decidable.em ((X.S.dr.begin z).dv.Er z=0)with y|y
    ·exact y
    ·exact absurd y E)
   unfold Aft;split
   ·exact U8.zs
   ·split
    ·rename_i P
     have:off.toNat<((X.S.dr.begin (j:Int)).dv.zs j).l.length:=by
      have:=P.2;rw[bG]at this;omega
     rw[bG,aH this];exact(O j hj).u8 _ (av _)
    ·exact U8.zs
 obtain⟨H,T⟩:=C.M.drv C.hb a d2 c2;exact t _ _ h' _ hlen x (C.Hi H T u (A3d (Bfh X.S.dr z off))) (A5v · z off)
theorem Bm7(C:Cy h B X F)(z:Int):∃(n:Nat) (D V:Nat),n<=64/\Bn K (.ptr B.m 0) h=some (.ptr D 0,h)/\Dy K (.ptr D 0) h=some (.ptr V 0,h)/\Qx K (.ptr V 0) (I z) h=some (I n,h):=by
 obtain⟨lt,D,p,bl,ql,np,t,u,G,a⟩:=C.M.s;obtain⟨V,x,qc,qh,cs,hs,ms,F',e⟩:=a.drv.Mw;have w:=e.dev.wf;have j:(if X.S.dr.dv.has z=true then(X.S.dr.dv.zs z.toNat).l.length else 0)<=64:=by
  split
  ·rename_i k
   have:=cO k;have:=(w.zs z.toNat (by omega)).len;have:=w.size;omega
  ·omega
 refine⟨_,D,V,j,Qu a.Hi,Asy e,?_⟩;rw[Bdo e.dev];split<;>rfl
section
def Az7(L:List (List EV)):Prop:=A2b L/\L.length<=64
def Bva(h:Ab)(B:Cb)(X:Co)(F:Nat->Prop):EV->Ab->Prop:=fun v h'=>∃(a:EV) (ok:Bool) (e:Int) (Y:Co) (j:Nat) (L:List (List EV)),v=.tuple [a,.bool ok,I e]/\E0 h h' B X F Y/\(¬e=0\/ok=false\/(Cc h' a j 30 64 L.length L.flatten/\Az7 L))/\(X.S.dr.dv.down=true->Y.S.dr.dv.down=true/\(e=34\/e=0/\L = []))
section
variable (A:By disp)(hK:10000<K)
include A hK
theorem Bjf(hd:19<=d){z:Int}(rz:Rs z)(hn:n<=64)(G:∀j,F j->j<h.next):∀(f i:Nat) (E:Ab) (Y:Co) (s:EV) (q:Nat) (L:List (List EV)),n-i<f->i<=n->L.length=i->E0 h E B X F Y->Cy E B Y (fun j=>F j\/(0<L.length/\j=q))->(0<L.length->h.next<=q)->Cc E s q 30 64 L.length L.flatten->A2b L->(X.S.dr.dv.down=true->L = []/\Y.S.dr.dv.down=true) ->
 Ok (Kl (Ag TT disp K d false) (Ag TT disp K d true) K f (I z) (.ptr B.m 0) s (I n) (I i) E) (Bva h B X F):=by
 intro f;induction f with
 | zero=>intro i E Y s q L hf;omega
 | succ f ih=>
  intro i E Y s q L hf hi hL c1 C1 hq row S dn;rw[Kl];simp only[I,Ac];by_cases a5:i<n
  case neg=>
   have:decide ((i:Int)<(n:Int))=false:=by simp;omega
   simp only[this,Aa,Ado];exact .ret ⟨s,true,0,Y,q,L,rfl,c1,.inr (.inr ⟨row,S,by omega⟩),fun y=>⟨(dn y).2,.inr ⟨rfl,(dn y).1⟩⟩⟩
  have:decide ((i:Int)<(n:Int))=true:=by simp;omega
  simp only[this,Aa,Aep];refine A75 A hK C1 (d:=d) (by omega) z i fun l e h2 Z H hu c2 d2=>?_
  have J:E0 h h2 B X F Z:=c1.trans (c2.less fun j=>.inl);simp only[Aa];refine Ok.mk rfl H fun M x3 e3 _=>?_
  have c3:=c2.trans (c2.C.Yx x3);have t:=J.trans (J.C.Yx x3);have d34:¬e=34->∀{p:Prop},X.S.dr.dv.down=true->p:=fun k _ y=>absurd (d2 (dn y).2).1 k
  have ab:D6 (.tuple []) false=false/\D6 (.tuple []) true=false:=⟨rfl,rfl⟩;simp only[I,Ac];by_cases u:e=34
  ·rw[aJ u]
   simp only[Aa,Bu,Ox,K1,Kz,ab];exact .ret ⟨.Al,false,34,Z,0,[],rfl,t,.inr (.inl rfl),fun y=>⟨(d2 (dn y).2).2,.inl rfl⟩⟩
  rw[aI u];simp only[Aa,Bu];by_cases D:e=32
  ·rw[aJ D]
   simp only[Aa,Bu,Ox];refine Ok.Am (A55 A hK t.C (d:=d) (by omega) rz) ?_;rintro _ h4 ⟨e4,W,rfl,c4⟩;have O:=t.trans c4;simp only[I,Ac];by_cases k4:e4=34
   ·rw[aJ k4]
    simp only[Aa,Bu,K1,Kz];exact .ret ⟨.Al,false,34,W,0,[],rfl,O,.inr (.inl rfl),d34 u⟩
   ·rw[aI k4]
    have:¬(32:Int)=0:=by decide
    simp only[Aa,Bu,K1,Kz,Un,D,I,Ac,this,aE,aB];exact .ret ⟨.Al,false,0,W,0,[],rfl,O,.inr (.inl rfl),d34 u⟩
  rw[aI D];simp only[Aa,Bu,Ox,K1,Kz,Un,I,Ac];by_cases k0:e=0
  case neg=>
   rw[aJ k0];simp only[Aa];exact .ret ⟨.Al,false,0,Z,0,[],rfl,t,.inr (.inl rfl),d34 u⟩
  rw[aI (show ¬¬e=0 from fun y=>y k0)];simp only[Aa,Ad4];rw[Cp e3 rfl (Aj H)];have P:=row.frame (h':=M) fun y=>c3.k.get _ (c1.hb _ _ (row.block y)) fun w=>w (.inr ⟨y,rfl⟩)
  have T:=t.hb;refine L7 (z:=List.replicate 64 (EV.int .u8 0)) (v:=.agg l) P T rfl (by simp) H (by omega) (by omega) fun h6 U a6 c6=>?_
  have ae:=c6.hb T;have C6:=c3.C.Bf6 c6 (fun j hj H=>.inr ⟨hj.1,hj.2⟩) ae;have ll:(L++[l]).length=L.length+1:=by simp
  have af:Cy h6 B Z (fun j=>F j\/(0<(L++[l]).length/\j=M.next+1)):=C6.less fun j hj=>by
   rcases hj with hj|⟨_,rfl⟩
   ·exact .inl (.inl hj)
   ·exact .inr ⟨by omega,by omega⟩
  have ag:Kf F M h6:=c6.mono fun j hj y=>by
   have a:=G j y;have b:=hq hj.1;have e:=hj.2;omega
  have ah:E0 h h6 B X F Z:=t.trans ⟨C6.less fun j hj=>.inl (.inl hj),ag,Ck.refl _⟩;simp only[Aem,Ac];rw[Ci,show((i:Nat):Int)+1=((i+1:Nat):Int) by omega];have aq:=t.k.next
  refine ih (i+1) h6 Z (.slice (M.next+1) 0 (L.length+1) (L.length+1) true) (M.next+1) (L++[l]) (by omega) (by omega) (by omega) ah af (fun _=>by omega) ?_ (fun x V=>?_) (d34 u)
  ·rw[ll,cj,show([l]).flatten=l by simp];exact U
  ·rcases bP.1 V with V|V
   ·exact S x V
   ·rw[aP.1 V];exact⟨H,hu⟩
theorem Bqc(hd:20<=d):Bn5 disp K d Az7:=by
 intro h B X F q s C fq g z a;obtain⟨e,rfl⟩:∃k,d=k+1:=⟨d-1,by omega⟩;rw[Apk A (by omega)];simp only[Akj,Aa];rw[Ah g rfl rfl];simp only[Du,Aa];rw[C.ldM]
 try simp only[Aa]
 obtain⟨n,D,V,m,e1,e2,e3⟩:=Bm7 (K:=K) C z;rw[e1,Aq,e2,Aq,e3,Aq];exact Bjf A hK (d:=e) (by omega) a m (fun j hj=>C.M.lt _ (.inl hj)) K 0 h X .Al 0 [] (by omega) (by omega) rfl (E0.refl C) (C.less fun j hj=>by rcases hj with hj|⟨y,_⟩;exact hj;exact absurd y (by simp)) (fun y=>absurd y (by simp)) (Cc.nil _ _ _ _) (fun x p=>by cases p) (fun y=>⟨rfl,y⟩)
end
end
def Bca(disp:Nat->Option FT)(K d:Nat):Prop:=∀{h:Ab} {s:EV} {q:Nat} {L:List Fr},Cc h s q 247 49 L.length (L.map Fr.cells).flatten->(∀f∈L,f.Wf)->L.length<=64->HB h ->
 Ok (Ag TT disp K d false 267 [s] h) fun v h'=>∃(a:Int) (b c p:EV) (e:Int),v=.tuple [.agg [I a,b,c,p],I e]/\(b.plain=true/\c.plain=true/\p.plain=true)/\Ext h h'/\HB h'/\(L = []->¬e=0)
theorem Azp:TT.size 163=some 4/\TT.agg 163=some true:=⟨by kernel_rfl,by kernel_rfl⟩
theorem Baw(A:By disp)(hK:10000<K)(hd:9<=d)(hs:Bca disp K d){v3 v6 qx:Nat}{sx:EV}{X:List (List EV)}{An:Int}(hX:A2b X)(hn:X.length<=64)(l3:h0.next<=v3)(l6:h0.next<=v6)(rx:Cc h0 sx qx 30 64 X.length X.flatten)(U:HB h0):
 ∀(n i:Nat) (h:Ab) (s:EV) (q:Nat) (L:List Fr),X.length-i<n->i<=X.length->Ext h0 h->HB h->h.get v3=some (.cells Be 119)->h.get v6=some (.cells [.int .i64 0,.int .i64 0,.int .i64 0,.Bw] 163)->(∀f∈L,f.Wf)->L.length=i->Cc h s q 247 49 i (L.map Fr.cells).flatten->(0<i->h0.next<=q/\q≠v3/\q≠v6) ->
 Ok (Vm (Ag TT disp K d false) (Ag TT disp K d true) K n (I An) (.ptr v3 0) (.ptr v6 0) s sx (I X.length) (I i) h) fun v h'=>∃(a:Int) (b c p:EV) (e:Int),v=.tuple [.agg [I a,b,c,p],I e]/\Ext h0 h'/\(X = []->¬e=0):=by
 intro n;induction n with
 | zero=>intro i h s q L hn;omega
 | succ n ih=>
  intro i h s q L ay hi E hb V O nL hL row W;rw[Vm];simp only[I,Ac];have fin:∀h',Ext h0 h'->HB h'->h'.get v6=some (.cells [.int .i64 0,.int .i64 0,.int .i64 0,.Bw] 163)->Cc h' s q 247 49 i (L.map Fr.cells).flatten->Ok (Aba (Ag TT disp K d false) (Ag TT disp K d true) K (.ptr v6 0) s h') fun v h'=>∃(a:Int) (b c p:EV) (e:Int),v=.tuple [.agg [I a,b,c,p],I e]/\Ext h0 h'/\(X = []->¬e=0):=fun h' x' G g' r'=>by
   simp only[Aba,dr];refine Ok.Am (hs (L:=L) (by rw[hL];exact r') nL (by omega) G) ?_;rintro _ h2 ⟨a,b,c,p,e,rfl,pl,D,m,ne⟩;have H:=D.at G g';have Y:=m _ _ H;simp only[Aa];refine Ok.stW H (by simp[EV.plain,pl]) rfl ?_;rw[Ea (Af _ _ _) Azp.1 Azp.2 rfl];exact .ret ⟨a,b,c,p,e,rfl,(x'.trans D).Ao (.inr l6) Y _,fun y=>ne (eB (by rw[y]at hi;have:i<=0:=hi;omega))⟩
  by_cases u:i<X.length
  case neg=>
   have:decide ((i:Int)<(X.length:Int))=false:=by simp;omega
   simp only[this,Aa];exact fin h E hb O row
  have e3:decide ((i:Int)<(X.length:Int))=true:=by simp;omega
  simp only[e3,Aa,Asv];have J:=rx.frame (h':=h) fun y=>E.get _ (U _ _ (rx.block y)) id
  have e1:Mu X.flatten (i*64) 64=some X[i]:=Am3 (n:=64) _ _ _ (fun x S=>(hX x S).1) (aH u);have S:=hX _ (av u);have Z:=(U8.Buc S.2);have el:(Ag5 X[i]).length=64:=by rw[A0w];exact S.1
  rw[J.ix u,Cp (J.block (by omega)) rfl e1,<-Z.1];generalize Ag5 X[i]=sec at Z el⊢
  try simp only[Aa]
  refine Ok.mk (by simp) (by rw[Bg,el]) fun h2 D g2 _=>?_
  have m:=D.hb hb;rw[Cz (D.at hb V) rfl,Aj (n:=256) P7];simp only[Aa];rw[Cp g2 rfl (Aj (by rw[Bg,el]))];have fa:=Ay3 (K:=K) el Z.2 m hK An i;generalize atF sec An i=P at fa;obtain⟨f,er⟩:=P;simp only[I]at fa;refine fa.Am ?_;rintro _ h3 ⟨rfl,T,x3⟩;have ab:=x3.hb m;simp only[Aa];refine Ok.mk (by simp) (Fr.Ba T) fun h4 x4 g4 _=>?_
  have C:=x4.hb ab;have k:Ext h h4:=(D.trans x3).trans x4;have t:=row.frame (h':=h4) fun y=>k.get _ (hb _ _ (row.block y)) id
  simp only[Ac];by_cases k0:er=0
  case neg=>
   rw[aJ k0];simp only[Aa];exact fin h4 (E.trans k) C (k.at hb O) t
  rw[aI (show ¬¬er=0 from fun y=>y k0)];simp only[Aa,As3];rw[Cp g4 rfl (Aj (Fr.Ba T))];refine L7 t C rfl (by simp) (Fr.Ba T) (by omega) (by omega) ?_;intro h5 M n5 c5;simp only[As1,Ac];rw[Ci,show((i:Nat):Int)+1=((i+1:Nat):Int) by omega];have lv:=hb _ _ V;have a8:=hb _ _ O;have nx:=k.next
  have c:As (fun j=>0<i/\j=q) h h5:=(Ext.to k).trans c5;refine ih (i+1) h5 _ (h4.next+1) (L++[f]) (by omega) (by omega) (E.then c fun j hj a=>?_) (c5.hb C) (c.at hb V fun y=>(W y.1).2.1 y.2.symm) (c.at hb O fun y=>(W y.1).2.2 y.2.symm) ?_ (by rw[aG,hL];rfl) ?_ (fun _=>⟨by have:=E.next;omega,by omega,by omega⟩)
  ·have:=(W hj.1).1
   have:=hj.2;omega
  ·intro g hg
   rcases bP.1 hg with y|y
   ·exact nL g y
   ·rw[aP]at y;subst y;exact T
  ·rw[bm,cj,show([f].map Fr.cells).flatten=f.cells from cS _];exact M
theorem Boz(A:By disp)(hK:10000<K)(hd:10<=d)(hs:Bca disp K (d-1)):A65 disp K d Az7:=by
 intro h t C X z D hb rx a;obtain⟨e,rfl⟩:∃k,d=k+1:=⟨d-1,by omega⟩;rw[A1i A (by omega)];simp only[A1n,U0,Aa];have j:Ext h ((h.new (.cells Be 119)).new (.cells [.int .i64 0,.int .i64 0,.int .i64 0,.Bw] 163)):=(As.new _ _).Da _;have c1:((h.new (.cells Be 119)).new (.cells [.int .i64 0,.int .i64 0,.int .i64 0,.Bw] 163)).get h.next=some (.cells Be 119):=by rw[Az _ (aR _)];exact Ad _ _
 have p:((h.new (.cells Be 119)).new (.cells [.int .i64 0,.int .i64 0,.int .i64 0,.Bw] 163)).get (h.next+1)=some (.cells [.int .i64 0,.int .i64 0,.int .i64 0,.Bw] 163):=Ad _ _;rw[show(h.new (.cells Be 119)).next=h.next+1 from rfl];generalize (h.new (.cells Be 119)).new (.cells [.int .i64 0,.int .i64 0,.int .i64 0,.Bw] 163)=u at j c1 p⊢;have m:=j.hb hb;have le:∀k:EV->R,Hf t k=k (I X.length):=fun k=>rx.Hf k
 rw[le];have E:=a.2;exact Baw (K:=K) A hK (d:=e) (by omega) hs a.1 a.2 (aD h.next) (fM _) rx hb K 0 u .Al 0 [] (by omega) (by omega) j m c1 p (fun f x=>by cases x) rfl (Cc.nil _ _ _ _) (fun y=>absurd y (bS _))
theorem Br4:TT.size 53=some 6/\TT.agg 53=some true:=⟨by kernel_rfl,by kernel_rfl⟩
theorem Bt7 {l:List Nat}(j:∀b∈l,b<256):Q5 (l.take 2)<65536:=by
 have a:=A6e (l.take 2) fun b hb=>j b (bO hb)
 have c:(l.take 2).length<=2:=by rw[bH];omega
 have e:256^(l.take 2).length<=256^2:=eO (by decide) c;omega
theorem A77(hK:10000<K){R:Nat}{l:List Nat}(d:Rd h R q off l)(hb:HB h)(hn:16<=l.length)(hl:∀b∈l,b<256):
 Ok (Ar1 K (.ptr R 0) h) fun v h'=>∃x:Me,v=.agg x.cells/\(Rs x.An/\Rs x.Bv)/\Rd h' R q (off+16) (l.drop 16)/\As (fun i=>i=R) h h'/\HB h':=by
 have lR:R<h.next:=by obtain⟨s,g,_⟩:=d.Mw;exact hb _ _ g
 simp only[Ar1,Aa];obtain⟨h1,e_,x1,g1,n1⟩:=nW h (.cells [EV.int .i64 0,.int .i64 0,.int .i64 0,.int .i64 0,.int .i64 0,.int .i64 0] 53);rw[e_];have u:=x1.hb hb;refine(Lb (K:=K) (d.ext hb x1) u (by omega) (w:=1) (by omega) (by omega) (by omega) hl).Am ?_;rintro _ h2 ⟨rfl,d2,c2,J⟩;generalize Q5 (l.take 1)=a1;have b7:=c2.at u g1 (by show ¬_=R;omega);have t2:=c2.next
 rw[Aw (l:=[Nk .i64 a1,I 0,I 0,I 0,I 0,I 0]) rfl];refine Ok.mk rfl rfl fun h3 x3 g3 _=>?_
 have M:=x3.hb J;have a:∀k,∀b∈l.drop k,b<256:=fun k b hb=>hl b (aF hb)
 refine(Lb (K:=K) (d2.ext J x3) M (by omega) (w:=2) (by omega) (by omega) (by rw[aU];omega) (a 1)).Am ?_;rintro _ h4 ⟨rfl,d4,c4,O⟩;have b2:=Bt7 (a 1);generalize Q5 ((l.drop 1).take 2)=a2 at b2⊢;rw[cD]at d4;refine(Lb (K:=K) d4 O (by omega) (w:=2) (by omega) (by omega) (by rw[aU];omega) (a _)).Am ?_;rintro _ h5 ⟨rfl,d5,c5,P⟩;have b3:=Bt7 (a (1+2));generalize Q5 ((l.drop (1+2)).take 2)=a3 at b3⊢;rw[cD]at d5;refine(Lb (K:=K) d5 P (by omega) (w:=1) (by omega) (by omega) (by rw[aU];omega) (a _)).Am ?_;rintro _ h6 ⟨rfl,d6,c6,T⟩;rw[cD]at d6;generalize Q5 _=a4;have qR:=d.ne;have U:=c6.at P (c5.at O (c4.at M g3 (by show ¬_=R;omega)) (by show ¬_=R;omega)) (by show ¬_=R;omega);have ai:As (fun i=>i=R) h1 h6:=(((c2.trans (Ext.to x3)).trans c4).trans c5).trans c6;have w6:=T _ _ U;have put:∀{y:Ab} {p:Nat} {lx:List Nat} (o:Ca),HB y->h2.next<y.next->As (fun i=>i=R) h1 y->Rd y R q p lx->HB (y.put h2.next o)/\As (fun i=>i=R) h1 (y.put h2.next o)/\Rd (y.put h2.next o) R q p lx:=fun o b w c d=>by
  have t:=c.next
  refine⟨b.put w _,c.Ao (.inr (by omega)) w _,d.chg b (S:=fun i=>i=h2.next) (As.Ao (S:=fun i=>i=h2.next) (As.refl _) (.inl rfl) w _) (by show ¬_=_;omega) (by show ¬_=_;omega)⟩
 refine Ok.st [Nk .i64 a1,Nk .i64 a2,I 0,I 0,I 0,I 0] U rfl rfl rfl ?_;obtain⟨C,V,d7⟩:=put (.cells [Nk .i64 a1,Nk .i64 a2,I 0,I 0,I 0,I 0] 53) T w6 ai d6;have g7:(h6.put h2.next (.cells [Nk .i64 a1,Nk .i64 a2,I 0,I 0,I 0,I 0] 53)).get h2.next=_:=Af _ _ _
 generalize h6.put h2.next (.cells [Nk .i64 a1,Nk .i64 a2,I 0,I 0,I 0,I 0] 53)=h7 at C V d7 g7⊢
 refine Ok.st [Nk .i64 a1,Nk .i64 a2,Nk .i64 a3,I 0,I 0,I 0] g7 rfl rfl rfl ?_;obtain⟨D,W,d8⟩:=put (.cells [Nk .i64 a1,Nk .i64 a2,Nk .i64 a3,I 0,I 0,I 0] 53) C (C _ _ g7) V d7;have g8:(h7.put h2.next (.cells [Nk .i64 a1,Nk .i64 a2,Nk .i64 a3,I 0,I 0,I 0] 53)).get h2.next=_:=Af _ _ _
 generalize h7.put h2.next (.cells [Nk .i64 a1,Nk .i64 a2,Nk .i64 a3,I 0,I 0,I 0] 53)=h8 at D W d8 g8⊢
 refine Ok.st [Nk .i64 a1,Nk .i64 a2,Nk .i64 a3,Nk .i64 a4,I 0,I 0] g8 rfl rfl rfl ?_;obtain⟨E,Y,d9⟩:=put (.cells [Nk .i64 a1,Nk .i64 a2,Nk .i64 a3,Nk .i64 a4,I 0,I 0] 53) D (D _ _ g8) W d8;have g9:(h8.put h2.next (.cells [Nk .i64 a1,Nk .i64 a2,Nk .i64 a3,Nk .i64 a4,I 0,I 0] 53)).get h2.next=_:=Af _ _ _
 generalize h8.put h2.next (.cells [Nk .i64 a1,Nk .i64 a2,Nk .i64 a3,Nk .i64 a4,I 0,I 0] 53)=h9 at E Y d9 g9⊢
 refine(Lb (K:=K) d9 E (by omega) (w:=6) (by omega) (by omega) (by rw[aU];omega) (a _)).Am ?_;rintro _ hA ⟨rfl,dA,cA,Z⟩;rw[cD]at dA;generalize Q5 _=j;refine(Lb (K:=K) dA Z (by omega) (w:=4) (by omega) (by omega) (by rw[aU];omega) (a _)).Am ?_;rintro _ hB ⟨rfl,dB,cB,aa⟩;rw[cD]at dB;generalize Q5 _=a6;have gB:=cB.at Z (cA.at E g9 (by show ¬_=R;omega)) (by show ¬_=R;omega);have ao:=(Y.trans cA).trans cB;refine Ok.st [Nk .i64 a1,Nk .i64 a2,Nk .i64 a3,Nk .i64 a4,Nk .i64 j,I 0] gB rfl rfl rfl ?_;obtain⟨G,ad,dC⟩:=put (.cells [Nk .i64 a1,Nk .i64 a2,Nk .i64 a3,Nk .i64 a4,Nk .i64 j,I 0] 53) aa (aa _ _ gB) ao dB;have gC:(hB.put h2.next (.cells [Nk .i64 a1,Nk .i64 a2,Nk .i64 a3,Nk .i64 a4,Nk .i64 j,I 0] 53)).get h2.next=_:=Af _ _ _
 generalize hB.put h2.next (.cells [Nk .i64 a1,Nk .i64 a2,Nk .i64 a3,Nk .i64 a4,Nk .i64 j,I 0] 53)=hC at G ad dC gC⊢
 refine Ok.st [Nk .i64 a1,Nk .i64 a2,Nk .i64 a3,Nk .i64 a4,Nk .i64 j,Nk .i64 a6] gC rfl rfl rfl ?_;obtain⟨m,H,dD⟩:=put (.cells [Nk .i64 a1,Nk .i64 a2,Nk .i64 a3,Nk .i64 a4,Nk .i64 j,Nk .i64 a6] 53) G (G _ _ gC) ad dC;have gD:(hC.put h2.next (.cells [Nk .i64 a1,Nk .i64 a2,Nk .i64 a3,Nk .i64 a4,Nk .i64 j,Nk .i64 a6] 53)).get h2.next=_:=Af _ _ _
 generalize hC.put h2.next (.cells [Nk .i64 a1,Nk .i64 a2,Nk .i64 a3,Nk .i64 a4,Nk .i64 j,Nk .i64 a6] 53)=hD at m H dD gD⊢
 rw[Cp gD rfl (Aj (n:=6) rfl)];have gv:=H.at u g1 (by show ¬_=R;omega);have lv:=m _ _ gv;refine Ok.stW gv rfl rfl ?_;rw[Q6 (Af _ _ _) Br4.1 Br4.2 rfl];refine .ret ⟨⟨a1,a2,a3,a4,j,a6⟩,rfl,⟨⟨by show _<=(a2:Int);omega,by show(a2:Int)<=_;omega⟩,by show _<=(a3:Int);omega,by show(a3:Int)<=_;omega⟩,?_,?_,m.put lv _⟩
 ·have e:off+1+2+2+1+6+4=off+16:=by omega
  rw[<-e];exact dD.chg m (S:=fun i=>i=h.next) (As.Ao (S:=fun i=>i=h.next) (As.refl _) (.inl rfl) lv _) (by show ¬_=_;omega) (by show ¬_=_;omega)
 ·exact((Ext.to x1:As (fun i=>i=R) h h1).trans H).Ao (.inr (aD _)) lv _
theorem Rd.Br2{R:Nat}{l:List Nat}(d:Rd h R q off l):Rd h.lift R q off l:=by
 obtain⟨s,g,e,f⟩:=d.Mw;exact⟨⟨s,by rw[Br];exact g,e,fun y=>⟨(f y).1,(f y).2.lift⟩⟩,d.ne⟩
theorem Rd.Bry {h':Ab}{R:Nat}{l:List Nat}(d:Rd h R q off l)(sm:Ahf h h'):Rd h' R q off l:=by
 obtain⟨s,g,e,f⟩:=d.Mw;exact⟨⟨s,by rw[sm.get];exact g,e,fun y=>⟨(f y).1,(f y).2.frame (sm.get _)⟩⟩,d.ne⟩
theorem Btz {k:Nat}{l:List Nat}(h:16*(2-k)<=l.length)(a:k<2):16*(2-(k+1))<=(l.drop 16).length:=by rw[aU];omega
theorem Bcq(hK:10000<K)(sm:Sm g){R v3 ll N:Nat}{x y z:EV}(w:f.Wf)(fo : -4294967296<=f.off/\f.off<=4294967296)(nR:N<=R)(nl:b≠R/\ml≠R/\ll≠R/\v2≠R/\v3<R/\v2≠ml/\v2≠ll/\v3≠ml/\v3≠ll/\q≠ml/\q≠ll):
 ∀(n k off:Nat) (h:Ab) (es:List Me) (l:List Nat),2-k<n->k<=2->HB h->N<=h.next->L0 h b ml ll g es->h.get v2=some (.cells [x,y,z,.ptr b 0] 163)->h.get v3=some (.cells f.cells 247)->Rd h R q off l->16*(2-k)<=l.length->(∀b∈l,b<256) ->
 Ok (Yi K n (.ptr v2 0) (.ptr v3 0) (.ptr R 0) (I k) h) fun v h'=>∃(e:Int) (u:List Me),v=I e/\L0 h' b ml ll g u/\As (fun i=>i=R\/i=ml\/i=ll) h h'/\HB h':=by
 intro n;induction n with
 | zero=>intro k off h es l hn;omega
 | succ n ih=>
  intro k off h es l hn hk hb hN m g2 g3 d hl hu;rw[Yi];simp only[I,Ac];by_cases H:k<2
  case neg=>
   have:decide ((k:Int)<2)=false:=by simp;omega
   simp only[this,Aa,Ae5];exact .ret ⟨0,es,rfl,m,As.refl _,hb⟩
  have n7:2-(k+1)<n:=by omega
  have:decide ((k:Int)<2)=true:=by simp;omega
  simp only[this,Aa,Av7,Ar];refine Ok.bC (S:=fun i=>i=R) (A77 (K:=K) hK d.Br2 (Db hb) (by omega) hu) (fun _ _ p=>by obtain⟨_,_,_,_,c,_⟩:=p;exact c) ?_;rintro _ J h2 s' ⟨e,rfl,rg,d1,c1,Y⟩ M G O;have lR:R<h.next:=by obtain⟨s,g,_⟩:=d.Mw;exact hb _ _ g
  have mw:R<=J.mw:=c1.mw R (Nat.le_of_lt lR) (Nat.le_of_lt lR) fun i hi=>by subst hi;exact aD _
  have Z:=nl.2.2.2.2.1;have a:=M.hb Y;have d2:Rd h2 R q (off+16) (l.drop 16):=d1.Bry M;have l3:=hb _ _ g3;have C:=G.at hb g2 nl.2.2.2.1;have D:=G.at hb g3 (Nat.ne_of_lt Z);have m2:=m.frame (G.get _ (hb _ _ m.map) nl.1) (G.get _ (hb _ _ m.row) nl.2.1) (G.get _ (hb _ _ m.live) nl.2.2.1);rw[Cg l3 (by
   rcases O with rfl|⟨w,rfl,rfl⟩
   ·kernel_rfl
   ·show Ax (Nat.ble (Nat.succ v3) J.mw) true false=true
    rw[aO (by omega)];rfl),Ah D rfl (v:=I f.off) rfl]
  simp only[I,Ac];have w1:Cx .i64 (f.off-1)=f.off-1:=Ci;have w2:Cx .i64 (2*(f.off-1))=2*(f.off-1):=Ci;have w3:Cx .i64 (2*(f.off-1)+(k:Int))=2*(f.off-1)+(k:Int):=Ci;rw[w1,w2,w3]
  try simp only[Aa,Ar]
  have hq:Nat.beq h2.next v3=false:=by
   cases hx:Nat.beq h2.next v3 with
   | false=>rfl
   | true=>have:=aL hx;have:=a _ _ D;omega
  have aa:A50 259 h2.next ⟨s'.bg,(Nat.shiftLeft 1 8,h2.next)::s'.nw,(Nat.shiftLeft 1 3,v3)::s'.C0,s'.lou,s'.st⟩=true:=by
   have e:A50 259 h2.next ⟨s'.bg,(Nat.shiftLeft 1 8,h2.next)::s'.nw,(Nat.shiftLeft 1 3,v3)::s'.C0,s'.lou,s'.st⟩=Ax (Ax (Ax (Nat.beq h2.next v3) false true) true false) true false:=by
    rcases O with rfl|⟨w,rfl,rfl⟩<;>kernel_rfl
   rw[e,hq];rfl
  rw[Gt aa];refine Ok.mk rfl rfl fun h3 V g7 _=>?_
  have T:=V.hb a;rw[Ah (V.at a C) rfl (v:=.ptr b 0) rfl];have m3:=m2.ext fun i o p=>V.at a p
  refine(Ig (K:=K) m3 T).Am ?_;rintro _ h4 ⟨rfl,x4,t⟩;have j:Ext h2 h4:=V.trans x4;have c4:As (fun i=>i=R\/i=ml\/i=ll) h h4:=(As.mono G fun i y=>.inl y).trans (Ext.to j);have m4:=m2.ext fun i o p=>j.at a p
  simp only[gV,gL,Aa,I,Ac];by_cases hB:g.B<=2*(f.off-1)+k
  ·rw[aJ (show 2*(f.off-1)+(k:Int)≥g.B from hB)]
   simp only[Aa,Ae5];exact .ret ⟨0,es,rfl,m4,c4,t⟩
  rw[aI (show ¬2*(f.off-1)+(k:Int)≥g.B from hB)];simp only[Aa,Awf];rw[Ah (j.at a C) rfl (v:=.ptr b 0) rfl,Cp (x4.at T g7) rfl (Aj (n:=6) rfl)];have rng:e.state=1->Rs e.An/\Rs e.Bv:=fun _=>rg
  refine(A2r (K:=K) sm m4 t rng _).Am ?_;rintro _ W ⟨rfl,m5,c5,U⟩;generalize Bqy g es (2*(f.off-1)+(k:Int)) e=P at m5⊢;obtain⟨u,er⟩:=P;have E:As (fun i=>i=R\/i=ml\/i=ll) h W:=c4.trans (c5.mono fun i y=>.inr y);simp only[I,Ac];by_cases k0:er=0
  case neg=>
   rw[aJ k0];simp only[Aa];exact .ret ⟨er,u,rfl,m5,E,U⟩
  rw[aI (show ¬¬er=0 from fun y=>y k0)];simp only[Aa,Aw6,Ac];rw[Ci,show((k:Nat):Int)+1=((k+1:Nat):Int) by omega];obtain⟨a1,a2,a3,a4,a5,a6,a7,a8,a9,ae,af⟩:=nl;have ag:=c5.at t (j.at a C) (fun y=>y.elim a6 a7);have ah:=c5.at t (j.at a D) (fun y=>y.elim a8 a9);have d5:Rd W R q (off+16) (l.drop 16):=(d2.ext a j).chg t c5 (fun y=>y.elim ae af) (fun y=>y.elim (fun z=>a2 z.symm) fun z=>a3 z.symm);have t6:16*(2-(k+1))<=(l.drop 16).length:=Btz hl H;have u6:∀b∈l.drop 16,b<256:=fun b hb=>hu b (aF hb)
  have n6:N<=W.next:=by have:=E.next;omega
  refine Ok.mono (ih (k+1) (off+16) W u (l.drop 16) n7 H U n6 m5 ag ah d5 t6 u6) ?_;rintro v h6 ⟨e6,ai,rfl,m6,c6,aj⟩;exact⟨e6,ai,rfl,m6,E.trans c6,aj⟩
theorem A7a(hK:10000<K)(sm:Sm g){ll:Nat}{x y z:EV}(m:L0 h b ml ll g es)(hb:HB h)(w:f.Wf)(fo : -4294967296<=f.off/\f.off<=4294967296)(pl:x.plain=true/\y.plain=true/\z.plain=true):
 Ok (Alp K (.agg [x,y,z,.ptr b 0]) (.agg f.cells) h) fun v h'=>∃(e:Int) (a:List Me),v=I e/\L0 h' b ml ll g a/\As (fun i=>i=ml\/i=ll) h h'/\HB h':=by
 have fl:=Fr.Ba w;simp only[Alp,Aa];rw[show(h.new (.cells [x,y,z,.ptr b 0] 163)).next=h.next+1 from rfl];have D:Ext h ((h.new (.cells [x,y,z,.ptr b 0] 163)).new (.cells f.cells 247)):=(As.new _ _).Da _;have H:((h.new (.cells [x,y,z,.ptr b 0] 163)).new (.cells f.cells 247)).get h.next=some (.cells [x,y,z,.ptr b 0] 163):=by rw[Az _ (aR _)];exact Ad _ _
 have g2:((h.new (.cells [x,y,z,.ptr b 0] 163)).new (.cells f.cells 247)).get (h.next+1)=some (.cells f.cells 247):=Ad _ _;have J:((h.new (.cells [x,y,z,.ptr b 0] 163)).new (.cells f.cells 247)).next=h.next+2:=rfl
 generalize (h.new (.cells [x,y,z,.ptr b 0] 163)).new (.cells f.cells 247)=M at D H g2 J⊢;have t:=D.hb hb;rw[show ∀k:EV->R,N1 44 1 (.ptr (h.next+1) 5) (some (.int .i64 1)) none none k=k (.slice (h.next+1) 6 43 43 false)from fun k=>rfl];have bl:(f.body.drop 1).length=43:=by rw[aU,w.len]
 have bs:Bs M (.slice (h.next+1) 6 43 43 false) (h.next+1) 6 (f.body.drop 1):=by
  refine⟨43,false,_,f.cells,by rw[bl],by rw[bl];omega,g2,rfl,by rw[bl,fl];omega,?_⟩;show((Bj f.body).drop 1).take (f.body.drop 1).length=_;rw[bl];have e:(Bj f.body).drop 1=Bj (f.body.drop 1):=by unfold Bj;rw[List.map_drop]
  rw[e,<-bl,<-Bg (f.body.drop 1),cL]
 refine(Afb (K:=K) bs t (by omega) (by omega)).Am ?_;rintro _ h2 ⟨R,q,rfl,d,E,u,lq⟩;have O:=hb _ _ m.map;have P:=hb _ _ m.row;have S:=hb _ _ m.live;have V:R<h2.next:=by obtain⟨s,g,_⟩:=d.Mw;exact u _ _ g
 have W:=d.ne;have C:Ext h h2:=D.trans E
 try simp only[Aa]
 refine(Bcq hK sm (N:=h.next) w fo (by omega) ⟨by omega,by omega,by omega,by omega,by omega,by omega,by omega,by omega,by omega,by omega,by omega⟩ K 0 0 h2 es _ (by omega) (by omega) u (by omega) (m.ext fun i o p=>C.at hb p) (E.at t H) (E.at t g2) d (by omega) fun b hb=>w.u8 b (aF hb)).mono ?_;rintro v Y ⟨e,a,rfl,T,c3,G⟩;refine⟨e,a,rfl,T,(Ext.to C:As (fun i=>i=ml\/i=ll) h h2).then c3 fun j hj U=>?_,G⟩;rcases hj with rfl|hj
 ·omega
 ·exact hj
theorem Ok.Bux{s:DX}{call:Ab->R}{k:EV->Ab->DX->R}{P:EV->Ab->Prop}{S:Nat->Prop}(w0:Nat)(j:w0<=h.next)(hS:∀i,S i->w0<=i)(hb:Ace b s=true)(m:loose b s.nw = [])(D:∀w,w0<=w->Th b w s.C0=true)(E:Ok (call h.lift) P)(he:∀v a,P v a->As S h.lift a)
 (u:∀v a h2 s',P v a->Ahf a h2->As S h h2->(s'=s.big i\/∃w,s'=s.Afg i w/\w=a.mw)->Ok (k v h2 s') Q):Ok (Ev.J0 i b s h call k) Q:=by
 obtain⟨v,a,e,p⟩:=E;have x:=he v a p;have G:Hs b s h=h.lift:=by unfold Hs;rw[m];rfl
 have H:Ev.J0 i b s h call k=Mm i b s h a fun s h=>k v h s:=by
  show Ax (Ace b s) (Ev.Am (call (Hs b s h)) fun v h'=>Mm i b s h h' fun s h=>k v h s) none=_;rw[hb,Ak,G,e];rfl
 rw[H];unfold Mm;rw[m];have sm:∀w,Ahf a ⟨a.t,a.next,w⟩:=fun w=>⟨fun i=>by rw[Acd,Acd],rfl⟩
 have C:∀w i,i<h.next->¬S i->(⟨a.t,a.next,w⟩:Ab).get i=h.get i:=fun w i J M=>by
  rw[(sm w).get,x.get i J M,Br]
 cases hle:Nat.ble h.next a.mw with
 | true=>
  rw[Ak];exact u v a _ _ p (sm _) ⟨C _,x.next,fun w w1 _ _=>w1,fun y=>(sm _).hb (x.hb (Db y))⟩ (.inl rfl)
 | false=>
  rw[Bc,D _ (x.mw w0 j j hS),Ak];refine u v a _ _ p (sm _) ⟨C _,x.next,fun w w1 w2 w3=>?_,fun y=>(sm _).hb (x.hb (Db y))⟩ (.inr ⟨_,rfl,rfl⟩);have:=x.mw w w2 w2 w3;show w<=Ax (Nat.ble h.mw a.mw) h.mw a.mw;rw[Bo];split<;>assumption
theorem A81(a:rtB g=false)(hb:HB h):Ok (Zh K (gV g) h) fun v h'=>v=.tuple [.Bw,I 20]/\Ext h h'/\HB h':=by
 simp only[Zh,gV,Aa];obtain⟨e,j,k,m,_⟩:=nW h (.cells (gL g) 23);rw[j];rw[Cz m rfl,Aj (n:=6) rfl]
 try simp only[Aa]
 rw[show EV.agg (gL g)=gV g from rfl];refine(Vr (K:=K) g e).Am ?_;rintro _ h2 ⟨rfl,p⟩;rw[a];simp only[Aa];have x:=k.trans p;exact .ret ⟨rfl,x,x.hb hb⟩
theorem A7z(hb:HB h):Ok (Zh K (gV g) h) fun v h'=>∃(p:EV) (e:Int),v=.tuple [p,I e]/\Ext h h'/\HB h'/\((p=.Bw/\e=20)\/∃b ml ll,p=.ptr b 0/\e=0/\rtB g=true/\L0 h' b ml ll g (List.replicate g.B.toNat (Me.nil 0))/\h.next<=b/\h.next<=ml/\h.next<=ll):=by
 cases j:rtB g with
 | false=>
  refine(A81 j hb).mono ?_;rintro v h' ⟨rfl,x,a⟩;exact⟨_,_,rfl,x,a,.inl ⟨rfl,rfl⟩⟩
 | true=>
  refine(Aw5 j hb).mono ?_;rintro v h' ⟨b,ml,ll,rfl,m,x,a,q⟩;exact⟨_,_,rfl,x,a,.inr ⟨b,ml,ll,rfl,rfl,rfl,m,q⟩⟩
theorem A38(hK:10000<K)(w:f.Wf)(hb:HB h):Ok (Ag0 K (.agg f.cells) h) fun v h'=>Ext h h'/\HB h'/\((∃(a b c:Int),v=.tuple [.agg [I a,I b,I c,.Bw],I 20])\/∃(a b c:Int) (g:Gm) (p ml ll:Nat) (es:List Me),v=.tuple [.agg [I a,I b,I c,.ptr p 0],I 0]/\rtB g=true/\L0 h' p ml ll g es/\h.next<=p/\h.next<=ml/\h.next<=ll):=by
 have fl:=Fr.Ba w;simp only[Ag0,Aa];have x1:Ext h ((h.new (.cells f.cells 247)).new (.cells [.int .i64 0,.int .i64 0,.int .i64 0,.Bw] 163)):=(As.new _ _).Da _;have g1:((h.new (.cells f.cells 247)).new (.cells [.int .i64 0,.int .i64 0,.int .i64 0,.Bw] 163)).get h.next=some (.cells f.cells 247):=by
  rw[Az _ (aR _)];exact Ad _ _
 have g2:((h.new (.cells f.cells 247)).new (.cells [.int .i64 0,.int .i64 0,.int .i64 0,.Bw] 163)).get (h.next+1)=some (.cells [.int .i64 0,.int .i64 0,.int .i64 0,.Bw] 163):=Ad _ _;have n1:((h.new (.cells f.cells 247)).new (.cells [.int .i64 0,.int .i64 0,.int .i64 0,.Bw] 163)).next=h.next+2:=rfl
 rw[show(h.new (.cells f.cells 247)).next=h.next+1 from rfl];generalize (h.new (.cells f.cells 247)).new (.cells [.int .i64 0,.int .i64 0,.int .i64 0,.Bw] 163)=h1 at x1 g1 g2 n1⊢;have Z:=x1.hb hb;rw[show ∀k:EV->R,N1 44 1 (.ptr h.next 5) none none none k=k (.slice h.next 5 44 44 false)from fun k=>rfl];have ul:(Bj f.body).length=44:=by rw[Bg,w.len]
 have bs:Bs h1 (.slice h.next 5 44 44 false) h.next 5 f.body:=by
  refine⟨44,false,_,f.cells,by rw[w.len],by rw[w.len];omega,g1,rfl,by rw[w.len,fl];omega,?_⟩;show(Bj f.body).take f.body.length=_;rw[w.len,<-ul,cL]
 refine(Afb (K:=K) bs Z (by rw[w.len];omega) (by rw[w.len];omega)).Am ?_;rintro _ h5 ⟨M,q,rfl,d0,x5,aa,ea⟩;have ab:=x5.at Z g1;have bn:=x5.at Z g2;have al:=aa _ _ ab;have eb:h.next+1<M:=by have:=d0.ne;omega
 have bo:Ext h h5:=x1.trans x5;have hu:=w.u8;have hl:=w.len;simp only[Aa,Ar];rw[G2 al,Ah ab rfl (v:=I f.seq) rfl]
 try simp only[Aa,Ar]
 rw[G2 al,Ah ab rfl (v:=I f.Au) rfl]
 try simp only[Aa,Ar]
 refine Ok.Bux (S:=fun i=>i=M) (h.next+1) (by have:=x5.next;omega) (fun i hi=>by have hi:i=M:=hi;omega) (by kernel_rfl) (by kernel_rfl) (fun _ hw=>by
  simp only[Th];rw[aO (show Nat.succ h.next<=_ from hw)];rfl) (Lb (K:=K) (w:=6) d0.Br2 (Db aa) (by omega) (by decide) (by decide) (by omega) hu) (fun _ _ p=>p.2.2.1) ?_
 rintro _ ec h6 s' ⟨rfl,bp,_,au⟩ sm c6 bt;have P:=sm.hb au;have d1:=bp.Bry sm;have x6:Ext h h6:=bo.then c6 fun j hj bw=>by
  have hj:j=M:=hj;omega
 have bx:=c6.at aa bn (by show ¬h.next+1=M;omega);have up:∀{u hc:Ab},Ext h u->As (fun i=>i=M) u hc->Ext h hc:=fun x c=>x.then c fun j hj bw=>by
  have hj:j=M:=hj;omega
 have t:∀{u hc:Ab} {i:Nat} {o:Ca},As (fun i=>i=M) u hc->HB u->u.get i=some o->i≠M->hc.get i=some o:=fun c hb g hi=>c.at hb g hi
 have lR:M<h6.next:=by obtain⟨_,g,_⟩:=d1.Mw;exact P _ _ g
 rw[Aw (l:=[I f.seq,I f.Au,Nk .i64 (Q5 (f.body.take 6)),.Bw]) rfl]
 try simp only[Aa,Ar]
 rw[Gt (by rcases bt with rfl|⟨w,rfl,_⟩<;>kernel_rfl)];refine Ok.mk rfl rfl fun h7 x7 bz n7=>?_
 have ad:=x7.hb P;have d17:=d1.ext P x7;have b5:=x7.at P bx;have b6:Ext h h7:=x6.trans x7;have H:∀b∈f.body.drop 6,b<256:=fun b hb=>hu b (aF hb)
 refine(Lb (K:=K) (w:=1) d17 ad (by omega) (by decide) (by decide) (by simp only[aU];omega) H).Am ?_;rintro _ h8 ⟨rfl,d2,c8,ae⟩;have b8:=t c8 ad b5 (by omega);have cb:=t c8 ad bz (by omega);have x8:=up b6 c8;refine(Lb (K:=K) (w:=1) d2 ae (by omega) (by decide) (by decide) (by simp only[aU];omega) (fun b hb=>H b (aF hb))).Am ?_;rintro _ h9 ⟨rfl,d3,c9,af⟩;have ch:=t c9 ae b8 (by omega);have cl:=t c9 ae cb (by omega);have x9:=up x8 c9;refine(Lb (K:=K) (w:=1) d3 af (by omega) (by decide) (by decide) (by simp only[aU];omega) (fun b hb=>H b (aF (aF hb)))).Am ?_;rintro _ u ⟨rfl,d4,ca,J⟩;have cx:=t ca af ch (by omega);have aw:=t ca af cl (by omega);have xa:=up x9 ca;generalize Q5 ((f.body.drop 6).take 1)=y;generalize Q5 (((f.body.drop 6).drop 1).take 1)=C;generalize Q5 ((((f.body.drop 6).drop 1).drop 1).take 1)=D;rw[Aw (l:=[Nk .i64 y,Nk .i64 C,Nk .i64 D,.int .i64 0,.int .i64 0,.int .i64 0]) rfl]
 try simp only[Aa]
 refine Ok.mk rfl rfl fun hB xb cA _=>?_
 have T:=xb.hb J;have ej:=J _ _ aw;have ek:M<u.next:=by obtain⟨_,g,_⟩:=d4.Mw;exact J _ _ g
 have cB:=xb.at J cx;have cG:=xb.at J aw;have c7:=d4.ext J xb;have da:Ext h hB:=xa.trans xb;refine(Lb (K:=K) (w:=2) c7 T (by omega) (by decide) (by decide) (by simp only[aU];omega) (fun b hb=>H b (aF (aF (aF hb))))).Am ?_;rintro _ hc ⟨rfl,d5,cc,U⟩;have db:=t cc T cB (by omega);have dc:=t cc T cG (by omega);have df:=t cc T cA (by omega);have xc:=up da cc;refine(Lb (K:=K) (w:=1) d5 U (by omega) (by decide) (by decide) (by simp only[aU];omega) (fun b hb=>H b (aF (aF (aF (aF hb)))))).Am ?_;rintro _ hd ⟨rfl,d6,cd,V⟩;have dg:=t cd U db (by omega);have di:=t cd U dc (by omega);have dj:=t cd U df (by omega);have xd:=up xc cd;refine(Lb (K:=K) (w:=1) d6 V (by omega) (by decide) (by decide) (by simp only[aU];omega) (fun b hb=>H b (aF (aF (aF (aF (aF hb))))))).Am ?_;rintro _ he ⟨rfl,d7,ce,dm⟩;have dt:=t ce V dg (by omega);have du:=t ce V di (by omega);have ay:=t ce V dj (by omega);have xe:=up xd ce;generalize Q5 (((((f.body.drop 6).drop 1).drop 1).drop 1).take 2)=E;generalize Q5 ((((((f.body.drop 6).drop 1).drop 1).drop 1).drop 2).take 1)=O;generalize Q5 (((((((f.body.drop 6).drop 1).drop 1).drop 1).drop 2).drop 1).take 1)=vO;have l6:=dm _ _ ay
 try simp only[Aa]
 refine Ok.st1 ay rfl rfl (by show 3<6;decide) ?_
 try simp only[Aa]
 refine Ok.st1 (Af _ _ _) rfl rfl (by show 4<6;decide) ?_
 try simp only[Aa]
 refine Ok.st1 (Af _ _ _) rfl rfl (by show 5<6;decide) ?_;have xf:Ext h (((he.put u.next (.cells ([Nk .i64 y,Nk .i64 C,Nk .i64 D,.int .i64 0,.int .i64 0,.int .i64 0].set 3 (Nk .i64 E)) 23)).put u.next (.cells (([Nk .i64 y,Nk .i64 C,Nk .i64 D,.int .i64 0,.int .i64 0,.int .i64 0].set 3 (Nk .i64 E)).set 4 (Nk .i64 O)) 23)).put u.next (.cells ((([Nk .i64 y,Nk .i64 C,Nk .i64 D,.int .i64 0,.int .i64 0,.int .i64 0].set 3 (Nk .i64 E)).set 4 (Nk .i64 O)).set 5 (Nk .i64 vO)) 23)):=((xe.Ao (.inr (by have:=xa.next;omega)) l6 _).Ao (.inr (by have:=xa.next;omega)) l6 _).Ao (.inr (by have:=xa.next;omega)) l6 _;have az:(((he.put u.next (.cells ([Nk .i64 y,Nk .i64 C,Nk .i64 D,.int .i64 0,.int .i64 0,.int .i64 0].set 3 (Nk .i64 E)) 23)).put u.next (.cells (([Nk .i64 y,Nk .i64 C,Nk .i64 D,.int .i64 0,.int .i64 0,.int .i64 0].set 3 (Nk .i64 E)).set 4 (Nk .i64 O)) 23)).put u.next (.cells ((([Nk .i64 y,Nk .i64 C,Nk .i64 D,.int .i64 0,.int .i64 0,.int .i64 0].set 3 (Nk .i64 E)).set 4 (Nk .i64 O)).set 5 (Nk .i64 vO)) 23)).get u.next=some (.cells (gL ⟨y,C,D,E,O,vO⟩) 23):=Af _ _ _
 have W:(((he.put u.next (.cells ([Nk .i64 y,Nk .i64 C,Nk .i64 D,.int .i64 0,.int .i64 0,.int .i64 0].set 3 (Nk .i64 E)) 23)).put u.next (.cells (([Nk .i64 y,Nk .i64 C,Nk .i64 D,.int .i64 0,.int .i64 0,.int .i64 0].set 3 (Nk .i64 E)).set 4 (Nk .i64 O)) 23)).put u.next (.cells ((([Nk .i64 y,Nk .i64 C,Nk .i64 D,.int .i64 0,.int .i64 0,.int .i64 0].set 3 (Nk .i64 E)).set 4 (Nk .i64 O)).set 5 (Nk .i64 vO)) 23)).get (h.next+1)=some (.cells [.int .i64 0,.int .i64 0,.int .i64 0,.Bw] 163):=by
  rw[Ae _,Ae _,Ae _];exact dt
 have Y:(((he.put u.next (.cells ([Nk .i64 y,Nk .i64 C,Nk .i64 D,.int .i64 0,.int .i64 0,.int .i64 0].set 3 (Nk .i64 E)) 23)).put u.next (.cells (([Nk .i64 y,Nk .i64 C,Nk .i64 D,.int .i64 0,.int .i64 0,.int .i64 0].set 3 (Nk .i64 E)).set 4 (Nk .i64 O)) 23)).put u.next (.cells ((([Nk .i64 y,Nk .i64 C,Nk .i64 D,.int .i64 0,.int .i64 0,.int .i64 0].set 3 (Nk .i64 E)).set 4 (Nk .i64 O)).set 5 (Nk .i64 vO)) 23)).get h6.next=some (.cells [I f.seq,I f.Au,Nk .i64 (Q5 (f.body.take 6)),.Bw] 163):=by
  rw[Ae _,Ae _,Ae _];exact du
 generalize ((he.put u.next (.cells ([Nk .i64 y,Nk .i64 C,Nk .i64 D,.int .i64 0,.int .i64 0,.int .i64 0].set 3 (Nk .i64 E)) 23)).put u.next (.cells (([Nk .i64 y,Nk .i64 C,Nk .i64 D,.int .i64 0,.int .i64 0,.int .i64 0].set 3 (Nk .i64 E)).set 4 (Nk .i64 O)) 23)).put u.next (.cells ((([Nk .i64 y,Nk .i64 C,Nk .i64 D,.int .i64 0,.int .i64 0,.int .i64 0].set 3 (Nk .i64 E)).set 4 (Nk .i64 O)).set 5 (Nk .i64 vO)) 23)=hf at xf az W Y⊢
 have G:=xf.hb hb;rw[Cz az rfl,Aj (n:=6) rfl];simp only[Aa];refine(A7z (K:=K) G).Am ?_;rintro _ hg ⟨p,e,rfl,xg,ag,hp⟩;have l5:=ag _ _ (xg.at G Y);have l2:=ag _ _ (xg.at G W);have lf:=xf.next
 have pp:p.plain=true/\p.cells = [p]:=by rcases hp with⟨rfl,_⟩|⟨b,_,_,rfl,_⟩<;>exact⟨rfl,rfl⟩
 try simp only[Aa]
 refine Ok.st1 (xg.at G Y) pp.1 pp.2 (by show 3<4;decide) ?_;rw[Cz (Af _ _ _) rfl,Aj (n:=4) rfl];simp only[Aa];refine Ok.stW (by rw[Ae _];exact xg.at G W) (by simp[EV.plain,pp.1]) rfl ?_;rw[Ea (Af _ _ _) Azp.1 Azp.2 rfl];refine .ret ⟨((xf.trans xg).Ao (.inr (by have:=x6.next;omega)) l5 _).Ao (.inr (fM _)) l2 _,(ag.put l5 _).put l2 _,?_⟩;rcases hp with⟨rfl,rfl⟩|⟨b,ml,ll,rfl,rfl,hr,m,m1,m2,m3⟩
 ·exact .inl ⟨_,_,_,rfl⟩
 ·have n6:=x6.next
  have lx:=xg.next
  have q5:=G _ _ Y;have q2:=G _ _ W;have go:∀i,hf.next<=i->((hg.put h6.next (.cells ([I f.seq,I f.Au,Nk .i64 (Q5 (f.body.take 6)),.Bw].set 3 (.ptr b 0)) 163)).put (h.next+1) (.cells ([I f.seq,I f.Au,Nk .i64 (Q5 (f.body.take 6)),.Bw].set 3 (.ptr b 0)) 163)).get i=hg.get i:=fun i hi=>by
   rw[Ae _ (show h.next+1≠i by omega),Ae _ (show h6.next≠i by omega)]
  refine .inr ⟨_,_,_,_,b,ml,ll,_,rfl,hr,m.frame (go b (by omega)) (go ml (by omega)) (go ll (by omega)),by omega,by omega,by omega⟩
theorem A1f:∀l l':List (IntKind × Int),l.map Prod.fst=l'.map Prod.fst->∃b,Ez (l.map fun p=>.int p.1 p.2) (l'.map fun p=>.int p.1 p.2)=some b
 | [],[],_=>⟨true,rfl⟩
 | [],_::_,e=>by cases e
 | _::_,[],e=>by cases e
 | (k,a)::l,(m,j)::l',e=>by
  rw[cR,cR]at e;injection e with e1 e2;obtain⟨b,hb⟩:=A1f l l' e2;have e1:k=m:=e1;subst e1;rw[cR,cR];unfold Ez;rw[hb];have:Agc (.int k a) (.int k j)=some (eqB a j):=by
   show Ax (Nat.beq (Ps k) (Ps k)) (some (eqB a j)) none=_;rw[cI,Ak]
  show ∃t,(match Agc (.int k a) (.int k j)with|some true=>some b|some false=>(match some b with|some _=>some false|none=>none)|none=>none)=some t;rw[this];cases eqB a j with
  | true=>exact⟨b,rfl⟩
  | false=>exact⟨false,rfl⟩
def Fr.row(f:Fr):List (IntKind × Int):=[(.i64,f.kind),(.i64,f.An),(.i64,f.off),(.i64,f.Au),(.i64,f.seq)]++f.body.map fun b=>(.u8,Int.ofNat b)
theorem Fr.A5a(f:Fr):f.cells=f.row.map fun p=>.int p.1 p.2:=by
 unfold Fr.row Fr.cells Bj;rw[bm,List.map_map];rfl
theorem A4y:∀l:List Nat,shaped (List.replicate l.length 0) (Bj l)=true
 | []=>rfl
 | a::l=>by
  show Ax (Nat.beq 0 0) (shaped (List.replicate l.length 0) (Bj l)) false=true;rw[A4y l];rfl
theorem Btr {g:Fr}(wf:f.Wf)(a:g.Wf):∃b,∀k:EV->R,J1 Alb (bin TT .neq 247) (.agg f.cells) (.agg g.cells) k=k (.bool b):=by
 have e:∀l:List Nat,(l.map fun b=>((IntKind.u8,Int.ofNat b):IntKind × Int)).map Prod.fst=List.replicate l.length .u8:=fun l=>by rw[List.map_map];exact List.map_const' ..
 obtain⟨b,hb⟩:=A1f f.row g.row (by unfold Fr.row;rw[bm,bm,e,e,wf.len,a.len];rfl);have he:TT.eqs 247=some (List.replicate 49 0):=by kernel_rfl
 have j:Aty TT 247 (.agg f.cells) (.agg g.cells)=some b:=by
  show(match TT.eqs 247 with|some sh=>Ax (shaped sh f.cells) (Ez f.cells g.cells) none|none=>none)=_;rw[he];simp only;have s:shaped (List.replicate 49 0) f.cells=true:=by
   have:=A4y f.body;rw[wf.len]at this;exact this
  rw[s,Ak,f.A5a,g.A5a,hb]
 refine⟨Ax b false true,fun k=>?_⟩;show oB k (match Aty TT 247 (.agg f.cells) (.agg g.cells)with|some b=>some (EV.bool (Ax b false true))|none=>none)=_;rw[j];rfl
theorem Bdh(H:By disp)(hd:7<=d)(hK:1000<K){ll:Nat}(G:rtB g=true)(m:L0 h b ml ll g es)(hb:HB h)(x y z j:Int):
 Ok (Ag TT disp K d false 296 [.agg [I x,I y,I z,.ptr b 0],I j] h) fun w h'=>∃(v:EV) (e:Int),w=.tuple [v,I e]/\Ext h h'/\HB h'/\(e=0->∃q L,Aom h' v q 247 49 L.length (L.map Fr.cells).flatten/\(L.length:Int)=g.parts/\Bhl L/\h.next<=q):=by
 by_cases C:snR x y z es=true/\0<=j/\j<g.D*g.Z
 ·refine(A5y H hd hK G m hb C.1 C.2.1 C.2.2).mono ?_
  rintro _ h' ⟨v,q,L,rfl,r,lq,p,i,S,J⟩;exact⟨v,0,rfl,S,J,fun _=>⟨q,L,r,p,i,lq⟩⟩
 have s:=Uy G;obtain⟨e,rfl⟩:∃k,d=k+1:=⟨d-1,by omega⟩;rw[Anv H (by omega)];simp only[Apz,Aa];obtain⟨h1,T,w1,M,_⟩:=nW h (.cells [I x,I y,I z,.ptr b 0] 163);rw[T];have a:=w1.hb hb;have O:=m.ext fun i o q=>w1.at hb q
 rw[Cz M rfl,Aj (n:=4) rfl];simp only[Aa];refine(Aj4 (K:=K) H (d:=e) (by omega) hK s O a x y z).Am ?_;rintro _ h2 ⟨rfl,E,t⟩;have U:D6 (.tuple []) false=false/\D6 (.tuple []) true=false:=⟨rfl,rfl⟩;cases hs:snR x y z es with
 | false=>
  simp only[Aa,Xn];exact .ret ⟨_,10,rfl,w1.trans E,t,fun y=>by cases y⟩
 | true=>
 have g2:=E.at a M;simp only[Aa,Ac];rw[Ah g2 rfl (v:=.ptr b 0) rfl];have V:=O.ext fun i o q=>E.at a q
 refine(Ig (K:=K) V t).Am ?_;rintro _ h3 ⟨rfl,W,u⟩;refine(Abc (K:=K) (g:=g) u j 0).Am ?_;rintro _ h4 ⟨rfl,P⟩;have Y:X1 g j 0=false:=by
  cases hw:X1 g j 0 with
  | false=>rfl
  | true=>
   refine absurd ⟨hs,?_⟩ C;simp only[X1,G,wi,bD,bL,bM]at hw;omega
 rw[Y];simp only[Aa,Xn];exact .ret ⟨_,10,rfl,((w1.trans E).trans W).trans P,P.hb u,fun y=>by cases y⟩
theorem A0c {L:List Fr}(wL:∀f∈L,f.Wf)(a:L[i]? = some f):Mu (L.map Fr.cells).flatten (i*49) 49=some f.cells:=
 Am3 (n:=49) _ _ _ (fun x e=>by obtain⟨f,a,rfl⟩:=cY.1 e;exact Fr.Ba (wL f a)) (by rw[bA,a];rfl)
def Bnu(h0:Ab):EV->Ab->Prop:=fun v h'=>∃(a:Int) (b c p:EV) (e:Int),v=.tuple [.agg [I a,b,c,p],I e]/\(b.plain=true/\c.plain=true/\p.plain=true)/\Ext h0 h'/\HB h'
theorem A2c(j:Ext h0 h)(hb:HB h)(l2:h0.next<=v2)(g2:h.get v2=some (.cells [.int .i64 0,.int .i64 0,.int .i64 0,.Bw] 163)):
 Ok (Bm (Df [(0,1),(1,1),(2,1),(3,1)]) [.int .i64 0,.int .i64 0,.int .i64 0,.Bw] [] fun e=>stE 4 (.ptr v2 0) e h fun k=>Ij TT [.c (.ptr v2 0) 163,.v (.int .i64 10)] k) (fun v h'=>Bnu h0 v h'/\∃a b c p,v=.tuple [.agg [I a,b,c,p],I 10]):=by
 have l:=hb _ _ g2;rw[Aw (l:=[.int .i64 0,.int .i64 0,.int .i64 0,.Bw]) rfl];refine Ok.stW g2 rfl rfl ?_;rw[Ea (Af _ _ _) Azp.1 Azp.2 rfl];exact .ret ⟨⟨0,I 0,I 0,.Bw,10,rfl,⟨rfl,rfl,rfl⟩,j.Ao (.inr l2) l _,hb.put l _⟩,0,I 0,I 0,.Bw,rfl⟩
section
variable (A:By disp)(hK:10000<K){s:EV}{v4:Nat}{L:List Fr}{a1 a2 a3:Int}(wL:∀f∈L,f.Wf)(hL:L.length<=64)(l2:h0.next<=v2)(l4:h0.next<=v4)(n24:v2≠v4)
include wL hL l2 l4 n24
theorem Bq6(c r:Ai){v9:EV}{G:Nat}{M:List Fr}(x:∀f∈M,f.Wf)(S:M.length<=L.length):∀(n i:Nat) (h:Ab),M.length-i<n->i<=M.length->Ext h0 h->HB h->h.get v2=some (.cells [.int .i64 0,.int .i64 0,.int .i64 0,.Bw] 163)->h.get v4=some (.cells [I a1,I a2,I a3,.ptr b 0] 163)->Cc h s q 247 49 L.length (L.map Fr.cells).flatten->Aom h v9 G 247 49 M.length (M.map Fr.cells).flatten ->
 Ok (T3 c r K n s (.ptr v2 0) (.ptr v4 0) v9 (I M.length) (I i) h) (Bnu h0):=by
 intro n;induction n with
 | zero=>intro i h H;omega
 | succ n J=>
  intro i h H T p hb g2 C row e;rw[T3];simp only[I,Ac];by_cases k:i<M.length
  case neg=>
   have:decide ((i:Int)<(M.length:Int))=false:=by simp;omega
   simp only[this,Aa,Al2];rw[Cz C rfl,Aj (n:=4) rfl];simp only[Aa];have D:=hb _ _ g2;refine Ok.stW g2 rfl rfl ?_;rw[Ea (Af _ _ _) Azp.1 Azp.2 rfl];exact .ret ⟨a1,I a2,I a3,.ptr b 0,0,rfl,⟨rfl,rfl,rfl⟩,p.Ao (.inr l2) D _,hb.put D _⟩
  have:decide ((i:Int)<(M.length:Int))=true:=by simp;omega
  simp only[this,Aa,Av1];have t:i<L.length:=by omega
  have ix:=e.ix k;simp only[I]at ix;rw[ix,e.ldN (by omega) (A0c x (aH k))];have w1:=x _ (av k);have w2:=wL _ (av t)
  try simp only[Aa]
  refine Ok.mk (by simp) (Fr.Ba w1) fun E j O _=>?_
  have m:=j.hb hb;rw[Cp O rfl (Aj (Fr.Ba w1))];have a:=row.frame (h':=E) fun y=>j.get _ (hb _ _ (row.block y)) id
  rw[a.ix t,Cp (a.block (by omega)) rfl (A0c wL (aH t))];obtain⟨P,u⟩:=Btr w1 w2;rw[u];cases P with
  | true=>
   simp only[Aa];exact(A2c (p.trans j) m l2 (j.at hb g2)).mono fun _ _ y=>y.1
  | false=>
   simp only[Aa,Axi,Ac];rw[Ci,show((i:Nat):Int)+1=((i+1:Nat):Int) by omega];exact J (i+1) E (by omega) (by omega) (p.trans j) m (j.at hb g2) (j.at hb C) a (e.frame fun y=>j.get _ (e.lt hb y) id)
include A hK
theorem Bqv(hd:8<=d){ll:Nat}(j:0<L.length)(U:g.parts<=L.length)(J:rtB g=true)(m:L0 h b ml ll g es)(H:Ext h0 h)(hb:HB h)(g2:h.get v2=some (.cells [.int .i64 0,.int .i64 0,.int .i64 0,.Bw] 163))(D:h.get v4=some (.cells [I a1,I a2,I a3,.ptr b 0] 163))(row:Cc h s q 247 49 L.length (L.map Fr.cells).flatten):
 Ok (Ae9 (Ag TT disp K d false) (Ag TT disp K d true) K s (.ptr v2 0) (.ptr v4 0) h) (Bnu h0):=by
 have lq:=hb _ _ (row.block j);have E:=hb _ _ D;have e1:=A0c wL (aH j);have e2:(L.map Fr.cells).flatten[0*49+1]? = some (I L[0].An):=by
  cases L with
  | nil=>cases j
  | cons f r=>rfl
 simp only[Ae9,Aa,Ar];rw[G2 E,Cz D rfl,Aj (n:=4) rfl]
 try simp only[Aa,Ar]
 rw[show ∀k:EV->R,Zl 49 s (.int .i64 0) k=k (.ptr q (0*49))from fun k=>row.ix j .i64 k]
 try simp only[Aa,Ar]
 rw[G2 lq,Ah (row.block j) rfl (v:=I L[0].An) e2]
 try simp only[Aa,Ar]
 refine Ok.bE (Bdh A (K:=K) (d:=d) (by omega) (by omega) J (m.frame (Br _ _) (Br _ _) (Br _ _)) (Db hb) a1 a2 a3 L[0].An) (fun _ _ p=>by obtain⟨_,_,_,x,_⟩:=p;exact x) ?_;rintro _ O h2 ⟨v9,e,rfl,_,P,t⟩ sm a;have u:=a.hb hb;simp only[Aa,I,Ac];by_cases G:e=0
 case neg=>
  rw[aJ G];simp only[Aa];exact(A2c (H.trans a) u l2 (a.at hb g2)).mono fun _ _ y=>y.1
 rw[aI (show ¬¬e=0 from fun y=>y G)];simp only[Aa,Aw2];obtain⟨V,M,S,W,i9,Y⟩:=t G;have C:=S.frame (h':=h2) fun _=>sm.get _
 rw[C.Hf];exact Bq6 wL hL l2 l4 n24 _ _ (fun f T=>(i9 f T).1) (by omega) K 0 h2 (by omega) (by omega) (H.trans a) u (a.at hb g2) (a.at hb D) (row.frame fun y=>a.get _ (hb _ _ (row.block y)) id) C
theorem Bkx(hd:8<=d){ll p:Nat}(hr:rtB g=true)(hp:(p:Int)=g.parts)(p2:2<=p)(pL:p<=L.length)(lm:h0.next<=ml/\h0.next<=ll):∀(n i:Nat) (h:Ab) (es:List Me),(p-1)-i<n->i<=p-1->L0 h b ml ll g es->Ext h0 h->HB h->h.get v2=some (.cells [.int .i64 0,.int .i64 0,.int .i64 0,.Bw] 163)->h.get v4=some (.cells [I a1,I a2,I a3,.ptr b 0] 163)->Cc h s q 247 49 L.length (L.map Fr.cells).flatten ->
 Ok (Rb (Ag TT disp K d false) (Ag TT disp K d true) K n s (.ptr v2 0) (.ptr v4 0) (.slice q 49 (p-1) (L.length-1) true) (I (p-1:Nat)) (I i) h) (Bnu h0):=by
 have sm:=Uy hr;intro n;induction n with
 | zero=>intro i h es hn;omega
 | succ n ih=>
  intro i h es hn hi m x0 hb g2 g4 row;rw[Rb];simp only[I,Ac];by_cases E:i<p-1
  case neg=>
   have:decide ((i:Int)<((p-1:Nat):Int))=false:=by simp;omega
   simp only[this,Aa];exact Bqv A hK wL hL l2 l4 n24 hd (by omega) (by omega) hr m x0 hb g2 g4 row
  have:decide ((i:Int)<((p-1:Nat):Int))=true:=by simp;omega
  simp only[this,Aa,Ata];have hl:i+1<L.length:=by omega
  have e1:=A0c wL (aH hl);rw[show(i+1)*49=49+i*49 by omega]at e1;rw[Od E,Cp (row.block (by omega)) rfl e1];have w1:=wL _ (av hl);generalize L[i+1]=f at w1⊢
  try simp only[Aa]
  refine Ok.mk (by simp) (Fr.Ba w1) fun h3 D g3 _=>?_
  have a:=D.hb hb;have G:=x0.trans D;have k:=D.at hb g2;have t:=D.at hb g4;have C:=m.ext fun i o q=>D.at hb q
  have u:=row.frame (h':=h3) fun y=>D.get _ (hb _ _ (row.block y)) id
  rw[Ah g3 rfl (v:=I f.off) rfl];simp only[I,Ac];rw[Ci];have ao:D6 (.tuple []) false=false/\D6 (.tuple []) true=false:=⟨rfl,rfl⟩;have pb:g.parts<=200:=by have:=sm.b0;have:=sm.b1;unfold Gm.parts;omega
  by_cases ho:f.off=(i:Int)+1
  case neg=>
   rw[aJ ho];simp only[Aa,Bu,Ae6];exact(A2c G a l2 k).mono fun _ _ y=>y.1
  rw[aI (show ¬¬f.off=(i:Int)+1 from fun y=>y ho)];simp only[Aa,Bu];rw[Cz t rfl,Aj (n:=4) rfl]
  try simp only[Aa]
  rw[Cp g3 rfl (Aj (Fr.Ba w1))];refine(A7a (K:=K) hK sm C a w1 (by omega) (x:=I a1) (y:=I a2) (z:=I a3) ⟨rfl,rfl,rfl⟩).Am ?_;rintro _ h4 ⟨e,P,rfl,m4,c4,H⟩;have S:=Ay k C.row (by simp);have T:=Ay k C.live (by simp);have U:=Ay t C.row (by simp);have V:=Ay t C.live (by simp);have J:=c4.at a k fun y=>y.elim S T
  have W:=c4.at a t fun y=>y.elim U V
  have gq:=u.block (show 0<L.length by omega);have Y:=Ay gq C.row (by simp);have Z:=Ay gq C.live (by simp);have M:=u.frame (h':=h4) fun y=>c4.get _ (a _ _ gq) fun y=>y.elim Y Z
  have O:Ext h0 h4:=G.then c4 fun j hj E=>by rcases hj with rfl|rfl<;>omega
  simp only[I,Ac];by_cases k0:e=0
  case neg=>
   rw[aJ k0];simp only[Aa,Bu,Ae6];exact(A2c O H l2 J).mono fun _ _ y=>y.1
  rw[aI (show ¬¬e=0 from fun y=>y k0)];simp only[Aa,Bu,Ae6,Ava,Ac];rw[Ci,show((i:Nat):Int)+1=((i+1:Nat):Int) by omega];exact ih (i+1) h4 P (by omega) (by omega) m4 O H J W M
end
theorem sl1 {p:Nat}(h2:2<=p)(a:p<=n)(k:EV->R):Ae2 49 (.slice q 0 n n true) (some (.int .i64 1)) (some (.int .i64 (p:Int))) none k=k (.slice q 49 (p-1) (n-1) true):=by
 have:slc (.slice q 0 n n true) 49 (some (.int .i64 1)) (some (.int .i64 (p:Int))) none=some (.slice q 49 (p-1) (n-1) true):=by
  have b1:bound (some (.int .i64 (p:Int))) n n=some p:=by
   show Ax (Nat.ble p n) (some p) none=_;rw[aO a,Ak]
  have b2:bound (some (.int .i64 1)) p 0=some 1:=by
   show Ax (Nat.ble 1 p) (some 1) none=_;rw[aO (by omega),Ak]
  unfold slc;simp only[b1,b2];rw[Ak,show Nat.beq 1 0=false from rfl,Bc,aO (show Nat.succ 1<=n by omega),Ak];rfl
 unfold Ae2;rw[this];rfl
theorem A59(A:By disp)(hK:10000<K)(hd:9<=d):Bca disp K d:=by
 intro h s q L row wL hL hb;obtain⟨e,rfl⟩:∃k,d=k+1:=⟨d-1,by omega⟩;rw[A4d A (by omega)];simp only[A4k,Aa];obtain⟨P,e_,Z,g1,n1⟩:=nW h (.cells [.int .i64 0,.int .i64 0,.int .i64 0,.Bw] 163);rw[e_];have E:=Z.hb hb;have r1:=row.frame (h':=P) fun y=>Z.get _ (hb _ _ (row.block y)) id
 rw[r1.Hf];simp only[I,Ac];by_cases h0:L.length=0
 ·have:decide ((L.length:Int)=0)=true:=aJ (by omega)
  simp only[this,Aa];refine(A2c Z E (aD _) g1).mono ?_;rintro v h' ⟨⟨a,b,c,p,e,rfl,pl,xx,G⟩,a',b',c',p',w⟩;injection w with w;injection w with _ w;injection w with w;injection w with _ w;exact⟨a,b,c,p,e,rfl,pl,xx,G,fun _=>by rw[w];decide⟩
 have:decide ((L.length:Int)=0)=false:=aI (by omega);simp only[this,Aa,Aso];have u:0<L.length:=by omega
 have fin:∀{x:R},Ok x (Bnu h)->Ok x fun v h'=>∃(a:Int) (b c p:EV) (e:Int),v=.tuple [.agg [I a,b,c,p],I e]/\(b.plain=true/\c.plain=true/\p.plain=true)/\Ext h h'/\HB h'/\(L = []->¬e=0):=fun a=>a.mono (by
  rintro v h' ⟨a,b,c,p,e,rfl,pl,xx,G⟩;exact⟨a,b,c,p,e,rfl,pl,xx,G,fun y=>absurd (by rw[y];rfl) h0⟩)
 have e1:Mu (L.map Fr.cells).flatten (0*49) 49=some L[0].cells:=Am3 (n:=49) _ _ _ (fun x hx=>by obtain⟨f,hf,rfl⟩:=cY.1 hx;exact Fr.Ba (wL f hf)) (by rw[bA,aH u];rfl);rw[show ∀k:EV->R,Zl 49 s (.int .i64 0) k=k (.ptr q (0*49))from fun k=>r1.ix u .i64 k,Cp (r1.block u) rfl e1];have fw:=wL _ (av u);refine fin ((A38 hK fw E).Am ?_);rintro v h2 ⟨x2,S,hv⟩;have bb:D6 (.tuple []) false=false/\D6 (.tuple []) true=false:=⟨rfl,rfl⟩;obtain⟨a1,a2,a3,p,er,rfl,pp,hp⟩:∃(a1 a2 a3:Int) (p:EV) (er:Int),v=EV.tuple [.agg [I a1,I a2,I a3,p],I er]/\p.plain=true/\((¬er=0)\/er=0/\∃g b ml ll es,p=.ptr b 0/\rtB g=true/\L0 h2 b ml ll g es/\P.next<=b/\P.next<=ml/\P.next<=ll):=by
  rcases hv with⟨a,b,c,rfl⟩|⟨a,b,c,g,p,ml,ll,es,rfl,w⟩
  ·exact⟨a,b,c,_,20,rfl,rfl,.inl (by decide)⟩
  ·exact⟨a,b,c,_,0,rfl,rfl,.inr ⟨rfl,g,p,ml,ll,es,rfl,w⟩⟩
 simp only[Aa];refine Ok.mk (by simp[EV.plain,pp]) rfl fun h3 x3 g3 _=>?_
 have j:=x3.hb S;have T:Ext P h3:=x2.trans x3;have U:Ext h h3:=Z.trans T;have H:=T.at E g1;have t2:=x2.next
 simp only[I,Ac];rcases hp with k0|⟨rfl,g,b,ml,ll,es,rfl,hr,m,lb,bj,bn⟩
 ·rw[aJ k0]
  simp only[Aa,Bu,Aa7];exact(A2c U j (aD _) H).mono fun _ _ y=>y.1
 rw[aI (show ¬¬(0:Int)=0 from fun y=>y rfl)];simp only[Aa,Bu];have sg:=Uy hr;have:=sg.b0;have:=sg.b1;have pb:2<=g.parts/\g.parts<=200:=by unfold Gm.parts;omega
 rw[Ah g3 rfl (v:=.ptr b 0) rfl];have m3:=m.ext fun i o q=>x3.at S q
 refine(Ig (K:=K) m3 j).Am ?_;rintro _ h4 ⟨rfl,x4,bp⟩;rw[Abb sg,Aq];have t:Ext h3 (h4.new (.cells (gL g) 23)):=x4.Da _;generalize h4.new (.cells (gL g) 23)=h5 at t⊢;have J:=t.hb j;have M:=U.trans t;have V:=row.frame (h':=h5) fun y=>M.get _ (hb _ _ (row.block y)) id
 rw[V.Hf];simp only[I,Ac];by_cases W:(L.length:Int)<g.parts
 ·rw[aJ (show g.parts>(L.length:Int)from W)]
  simp only[Aa,Bu,Aa7];exact(A2c M J (aD _) (t.at j H)).mono fun _ _ y=>y.1
 rw[aI (show ¬g.parts>(L.length:Int)from W)];simp only[Aa,Bu,Aa7,As5];rw[Ah (t.at j g3) rfl (v:=.ptr b 0) rfl];have m5:=m3.ext fun i o q=>t.at j q
 refine(Ig (K:=K) m5 J).Am ?_;rintro _ h6 ⟨rfl,x6,bw⟩;rw[Abb sg,Aq];have D:Ext h5 (h6.new (.cells (gL g) 23)):=x6.Da _;generalize h6.new (.cells (gL g) 23)=h7 at D⊢;have al:=D.hb J;have Y:=M.trans D;have O:=t.trans D;have C:=row.frame (h':=h7) fun y=>Y.get _ (hb _ _ (row.block y)) id
 obtain⟨p,hp⟩:=aZ (show 0<=g.parts by omega);rw[hp,C.slice u];unfold I;rw[sl1 (by omega) (by omega)];rw[show ∀k:EV->R,Hf (.slice q 49 (p-1) (L.length-1) true) k=k (I (p-1:Nat))from fun _=>rfl];have:=Bkx A hK (h0:=h) (s:=s) (q:=q) (v2:=h.next) (v4:=h2.next) wL hL (aD _) (by omega) (by omega) (d:=e) (by omega) hr hp.symm (by omega) (by omega) ⟨by omega,by omega⟩ K 0 h7 es (by omega) (by omega) (m3.ext fun i o q=>Ext.at O j q) Y al (Ext.at O j H) (Ext.at O j g3) C;rw[C.slice u]at this;exact this
end Go.Ev
