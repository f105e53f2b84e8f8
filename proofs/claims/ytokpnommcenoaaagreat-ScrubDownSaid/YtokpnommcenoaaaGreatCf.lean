import Derived.Test.YtokpnommcenoaaaGreatCe
import Derived.Test.YtokpnommcenoaaaGreatDc
import Derived.Test.YtokpnommcenoaaaGreatCd
import Derived.Test.YtokpnommcenoaaaGreatCb
set_option linter.all false
namespace Go.Ev
open Go.Proofs
set_option maxRecDepth 100000
variable {K b d i n q bo ml v2 off:Nat}{Cv:Nat->Int}{F:Nat->Prop}{h h0:Ab}{Q:EV->Ab->Prop}{g:Gm}{X:Co}{B:Cb}{v vo:EV}{k:EV->Ab->R}{f:Fr}{es:List Me}{disp:Nat->Option FT}
theorem A6t(A:Bw disp)(hK:10000<K)(hd:8<=d)(W:n<=600){ar m:Nat}{cur:Nat->Int}(S:F ar){S0:Mi}(b0:∀z,S0.bad z=0):∀(f i:Nat) (h:Ab),n-i<f->i<=n->Df h m (S0.Aj9 cur Cv i) F->HB h->h.get ar=some (.cells (arC m cur Cv) 212)->Kf F h0 h ->
 (∀h',Df h' m (S0.Aj9 cur Cv n) F->Kf F h0 h'->HB h'->Ok (F2 (Ag TT disp K d false) (Ag TT disp K d true) K (.ptr m 0) (.ptr b 0) (.ptr ar 0) h') Q) ->
 Ok (D9 (Ag TT disp K d false) (Ag TT disp K d true) K f (.ptr m 0) (.ptr b 0) (.ptr ar 0) (I n) (I i) h) Q:=by
 intro f;induction f with
 | zero=>intro i h T;omega
 | succ f U=>
  intro i h T Y M hb G k H;rw[D9];simp only[I,Ac];by_cases V:i<n
  ·have:decide ((i:Int)<(n:Int))=true:=by simp;omega
   simp only[this,Aa,T9];have J:=Bfb (K:=K) A (d:=d) (by omega) (by omega) G hb (i:Int);simp only[I]at J;refine J.Am ?_;rintro _ h2 ⟨rfl,C,t⟩;have M2:=(M.ext hb C).less fun j (hj:F j)=>Or.inl hj
   have x:=C.at hb G;have O:=k.trans (Ext.kf C);have nx:∀a,Df a m (S0.Aj9 cur Cv (i+1)) F->HB a->a.get ar=some (.cells (arC m cur Cv) 212)->Kf F h0 a->Ok (Ml (Ag TT disp K d false) (Ag TT disp K d true) K (D9 (Ag TT disp K d false) (Ag TT disp K d true) K f) (.ptr m 0) (.ptr b 0) (.ptr ar 0) (.int .i64 (n:Int)) (.int .i64 (i:Int)) a) Q:=fun a D u E y=>by
    simp only[Ml,Ac];rw[Cg,show((i:Nat):Int)+1=((i+1:Nat):Int) by omega];exact U (i+1) a (by omega) (by omega) D u E y H
   have e1:S0.Aj9 cur Cv (i+1)=if A1o cur Cv i=true then S0.Aj9 cur Cv i else(S0.Aj9 cur Cv i).Bd7 i:=rfl
   cases P:A1o cur Cv i with
   | true=>
    simp only[Aa];exact nx h2 (by rw[e1,aQ P];exact M2) t x O
   | false=>
    simp only[Aa];obtain⟨p,e2,e3⟩:=Bam M2 t A hK;rw[e2,Ap];refine Ok.Am (e3 hd (z:=(i:Int)) ⟨by omega,by omega⟩ fun _=>by rw[(Ak5 cur Cv S0 i).1,b0];decide) ?_;rintro _ a ⟨rfl,D,y,u⟩;exact nx a (by rw[e1,aM (by rw[P];decide)];exact D) u (y.at t x S) (O.trans y)
  ·have:decide ((i:Int)<(n:Int))=false:=by simp;omega
   simp only[this,Aa];have:i=n:=by omega
   subst this;exact H h M k hb
theorem A27(A:Bw disp)(hK:10000<K)(hd:8<=d)(hr:rtB g=true)(hb:HB h){v1 m ll L:Nat}(g1:h.get v1=some (.cells (gL g) 23))(mp:Lj h b ml ll g (List.replicate g.B.toNat (Me.nil 0)))(lb:L<=b/\L<=ml/\L<=ll)(M:Df h m (Mi.new g) (fun i=>i<L\/i=b\/i=ml\/i=ll))(lv:v1<L)
 (V:∀h' ar,L<=ar->Df h' m (Co.start g).S (fun i=>i<L\/i=b\/i=ml\/i=ll\/i=ar)->h'.get ar=some (.cells (arC m (Ve g) (Vb g)) 212)->Lj h' b ml ll g (List.replicate g.B.toNat (Me.nil 0))->Kf (fun i=>i<L) h h'->HB h'->Ok (F2 (Ag TT disp K d false) (Ag TT disp K d true) K (.ptr m 0) (.ptr b 0) (.ptr ar 0) h') Q) :
 Ok (Lq (Ag TT disp K d false) (Ag TT disp K d true) K (.ptr v1 0) (.ptr m 0) (.ptr b 0) h) Q:=by
 have s:=Ul hr;have zz:=Bry hr;have:=s.d0;have:=s.d1;have:=s.z0;have:=s.z1;have:=s.p0;obtain⟨m0,m1⟩:=N3 (a:=g.D) (b:=g.Z) (A:=8) (B:=64) (by omega) (by omega) (by omega) (by omega);simp only[Lq,dr];refine(A9d (K:=K) (by omega) hb m).Am ?_;rintro _ h2 ⟨rfl,ga,U,t⟩;have la:=t _ _ ga;have lm:h.next<=h.next:=aD _
 have l1:=hb _ _ g1;have l3:=hb _ _ mp.map;have l4:=hb _ _ mp.row;have l5:=hb _ _ mp.live;have M2:Df h2 m (Mi.new g) (fun i=>i<L\/i=b\/i=ml\/i=ll\/i=h.next):=(M.ext hb U).less fun i p=>by
  rcases p with p|p|p|p|p
  ·exact .inl (.inl p)
  ·exact .inl (.inr (.inl p))
  ·exact .inl (.inr (.inr (.inl p)))
  ·exact .inl (.inr (.inr (.inr p)))
  ·exact .inr ⟨by omega,by omega⟩
 have hL:L<=h.next:=by omega
 have P:=U.at hb g1;generalize h.next=ar at *
 have W:(fun i=>i<L\/i=b\/i=ml\/i=ll\/i=ar) ar:=.inr (.inr (.inr (.inr rfl)));have st:∀(i:Nat) (u:Ab) (c o:Nat->Int) (n:Nat),i<3->Df u m (Mi.new g) (fun i=>i<L\/i=b\/i=ml\/i=ll\/i=ar)->HB u->u.get ar=some (.cells (arC m c o) 212)->Au (fun j=>j=ar) h2 u ->
  (∀h4,Df h4 m (Mi.new g) (fun i=>i<L\/i=b\/i=ml\/i=ll\/i=ar)->HB h4->h4.get ar=some (.cells (arC m (N9 c i (i*g.Z)) (N9 o i (i*g.Z+1))) 212)->Au (fun j=>j=ar) h2 h4->Ok (Dj (Ag TT disp K d false) (Ag TT disp K d true) K n (.ptr v1 0) (.ptr m 0) (.ptr b 0) (.ptr ar 0) (I (i+1:Nat)) h4) Q) ->
  Ok (Dj (Ag TT disp K d false) (Ag TT disp K d true) K (n+1) (.ptr v1 0) (.ptr m 0) (.ptr b 0) (.ptr ar 0) (I i) u) Q:=by
  intro i u c o n p Y C E c3 V;rw[Dj];simp only[I,Ac];have:decide ((i:Int)<3)=true:=by simp;omega
  simp only[this,Aa,T7];have aa:=c3.at t P (by show ¬v1=ar;omega);have ld:∀k:EV->R,Fy (.ptr v1 1) u k=k (I g.Z):=fun k=>Ah aa rfl rfl
  obtain⟨a0,a1⟩:=N3 (a:=(i:Int)) (b:=g.Z) (A:=3) (B:=64) (by omega) (by omega) (by omega) (by omega);simp only[ld,I,Ac];rw[Cg,Cg];have d1:=Aiy s (i:=i) (k:=0) (by omega) (by omega) (by omega);have d2:=Aiy s (i:=i) (k:=1) (by omega) (by omega) (by omega);rw[Int.add_zero]at d1;have so:=Btj (K:=K) Y C E W p (v:=i*g.Z) (w:=i*g.Z+1) (.inr d1) (.inr d2) (by omega);simp only[I]at so;refine so.Am ?_;rintro _ h4 ⟨rfl,M4,G,c4,H⟩;simp only[T1,Ac];rw[Cg,show((i:Nat):Int)+1=((i+1:Nat):Int) by omega];exact V h4 M4 H G (c3.trans c4)
 obtain⟨K',rfl⟩:∃k,K=k+4:=⟨K-4,by omega⟩;refine st 0 h2 _ _ _ (by omega) M2 t ga (Au.refl _) fun u Y C E c3=>st 1 u _ _ _ (by omega) Y C E c3 fun h4 M4 H G c4=>st 2 h4 _ _ _ (by omega) M4 H G c4 fun h5 M5 x J c5=>?_
 rw[Dj];simp only[I,Ac];simp only[show decide (((2+1:Nat):Int)<3)=false from rfl,Aa,Mm];have ad:=c5.at t P (by show ¬v1=ar;omega);rw[Cy ad rfl,Ak (n:=6) rfl]
 try simp only[Aa]
 rw[show EV.agg (gL g)=gV g from rfl,Ni s,Ap];obtain⟨n,hn⟩:=aZ (show 0<=g.D*g.Z by omega);rw[hn];obtain⟨h6,e_,T,_,_⟩:=nW h5 (.cells (gL g) 23);rw[e_];have O:=T.hb x;have cc:N9 (N9 (N9 (fun _=>-1) 0 ((0:Nat)*g.Z)) 1 ((1:Nat)*g.Z)) 2 ((2:Nat)*g.Z)=Ve g:=by
  unfold Ve;rw[show(((0:Nat):Int))*g.Z=0 from Int.zero_mul _,show(((1:Nat):Int))*g.Z=g.Z from Int.one_mul _];rfl
 have co:N9 (N9 (N9 (fun _=>-1) 0 ((0:Nat)*g.Z+1)) 1 ((1:Nat)*g.Z+1)) 2 ((2:Nat)*g.Z+1)=Vb g:=by
  unfold Vb;rw[show(((0:Nat):Int))*g.Z=0 from Int.zero_mul _,show(((1:Nat):Int))*g.Z=g.Z from Int.one_mul _];rfl
 rw[cc,co]at J;have M6:=(M5.ext x T).less (F':=fun i=>i<L\/i=b\/i=ml\/i=ll\/i=ar) fun j hj=>Or.inl hj
 refine A6t (S0:=Mi.new g) (cur:=Ve g) (Cv:=Vb g) (h0:=h6) A hK hd (n:=n) (by omega) W (fun _=>rfl) (K'+4) 0 h6 (by omega) (by omega) M6 O (T.at x J) (Au.refl _) fun h7 M7 k7 ah=>?_
 have ca:Au (fun j=>j=ar) h2 h6:=c5.trans (Ext.to T);have kp:∀i o,i<ar->(i<L\/i=b\/i=ml\/i=ll)->h.get i=some o->h7.get i=some o:=fun i o p hf e=>k7.at O (ca.at t (U.at hb e) (by show ¬i=ar;omega)) (by
  rcases hf with y|y|y|y
  ·exact .inl y
  ·exact .inr (.inl y)
  ·exact .inr (.inr (.inl y))
  ·exact .inr (.inr (.inr (.inl y))))
 refine V h7 ar hL ?_ (k7.at O (T.at x J) W) ⟨kp _ _ l3 (.inr (.inl rfl)) mp.map,kp _ _ l4 (.inr (.inr (.inl rfl))) mp.row,kp _ _ l5 (.inr (.inr (.inr rfl))) mp.live,mp.len,mp.ok⟩ ?_ ah
 ·show Df h7 m ((Mi.new g).Aj9 (Ve g) (Vb g) (g.D*g.Z).toNat) _
  rw[hn];exact M7
 ·refine(Ext.kf U).trans ((ca.mono fun i p y=>?_).trans (k7.less fun i p=>.inl p))
  have y:i<L:=y;have p:i=ar:=p;omega
theorem A7r(A:Bw disp)(hK:10000<K)(hd:23<=d)(g:Gm)(hb:HB h):Ok (Ag TT disp K d false 30 [gV g] h) fun v h'=>Kf (fun i=>i<h.next) h h'/\HB h' /\
 (v=.Bu\/∃B Y,v=.ptr B.c 0/\Cu h' B Y (fun i=>i<h.next)/\h.next<=B.c/\Y.S.g=g/\Y.S.evs<=0):=by
 obtain⟨e,rfl⟩:∃k,d=k+1:=⟨d-1,by omega⟩;rw[Afs A (by omega)];simp only[Ys,gV,Aa];obtain⟨h1,e_,x1,g1,n1⟩:=nW h (.cells (gL g) 23);rw[e_];have ag:=x1.hb hb;rw[Cy g1 rfl,Ak (n:=6) rfl]
 try simp only[Aa]
 rw[show EV.agg (gL g)=gV g from rfl];refine(Bj9 g (by omega) h1).Am ?_;rintro _ h3 ⟨rfl,x3⟩;have E:=x3.hb ag;have aa:Ext h h3:=x1.trans x3;have cc:D6 (.tuple []) false=false/\D6 (.tuple []) true=false:=⟨rfl,rfl⟩;cases hr:rtB g with
 | false=>
  simp only[Aa,Ac,Hw];exact .ret ⟨Ext.kf aa,E,.inl rfl⟩
 | true=>
 have s:=Ul hr;have:=s.d0;have:=s.d1;have:=s.z0;have:=s.z1;have:=s.s0;have:=s.s1;have:=s.o0;have:=s.o1;obtain⟨m0,m1⟩:=N3 (a:=g.D) (b:=g.Z) (A:=8) (B:=64) (by omega) (by omega) (by omega) (by omega);have m2:3<=g.D*g.Z:=by
  have:3*1<=g.D*g.Z:=Int.mul_le_mul (by omega) (by omega) (by omega) (by omega);omega
 have J:=x3.at ag g1;simp only[Aa,Ac,Cz J rfl,gL,I];rw[Cg];by_cases ai:64<g.D*g.Z
 ·simp only[ai,aB,Aa,Ac,Hw]
  exact .ret ⟨Ext.kf aa,E,.inl rfl⟩
 simp only[ai,aA,Aa,Ac,Hw,S9,Ar];have l3:=E _ _ J;rw[Gy l3,Cy J rfl,Ak (n:=6) rfl]
 try simp only[Aa,Ar]
 rw[show EV.agg (gL g)=gV g from rfl];refine Ok.bE (P:=fun v h'=>v=I (g.D*g.Z)/\Ext h3.lift h') ⟨_,_,Ni s _,rfl,Au.new _ _⟩ (fun _ _ p=>p.2) ?_;rintro _ _ h4 ⟨rfl,_⟩ _ x4;have ab:=x4.hb E;have ad:=x4.at E J;rw[Gy l3,Ah ad rfl (v:=I g.S) rfl]
 try simp only[Aa,Ar]
 rw[Gy l3,Ah ad rfl (v:=I g.O) rfl]
 try simp only[Aa,Ar]
 have a7:Apy (g.D*g.Z) g.S g.O=true:=by
  unfold Apy;rw[N4.2 ⟨by omega,by omega⟩,N4.2 ⟨by omega,by omega⟩,N4.2 ⟨by omega,by omega⟩];rfl
 refine Ok.bE (A8f (K:=K) a7 (by omega) (Da ab)) (fun _ _ p=>by obtain⟨_,_,_,_,_,_,x,_⟩:=p;exact x) ?_;rintro _ cf h5 ⟨D,V,M,a8,z,rfl,_,_,dr,nd⟩ sm x5;have G:=x5.hb ab;have dr:=dr.ext (h':=h5) fun i o g=>by rw[sm.get];exact g
 have ae:=x5.at ab ad;have ch:h4.lift.next=h4.next:=rfl
 simp only[Aa,I,Ac,aC,aA,Sv,Ar];have l5:=G _ _ ae;rw[Gy l5,Cy ae rfl,Ak (n:=6) rfl]
 try simp only[Aa,Ar]
 rw[Aq8 (v:=Uh) (by kernel_rfl) (by kernel_rfl) rfl];have bb:Aiz h5.lift D V M a8 (g.D*g.Z).toNat z (fun _=>0) g.S g.O 0 false .Al .Al [] (fun _=>Zn.empty):=dr.ext fun i o g=>by rw[Br];exact g
 rw[show EV.agg (gL g)=gV g from rfl];refine Ok.bE (A37 (K:=K) (g:=g) (by omega) (Da G) bb) (fun _ _ p=>p.1) ?_;rintro v bf h6 ⟨_,_,hv⟩ bj x6;have T:=x6.hb G;rw[aQ ⟨hr,by omega,rfl⟩]at hv;obtain⟨m,p,bl,ql,q,c,rfl,MA,PA,nm⟩:=hv;have k6:∀i o,bf.get i=some o->h6.get i=some o:=fun i o g=>by rw[bj.get];exact g
 have t1:=x1.next;have t3:=x3.next;have t4:=x4.next;have t5:=x5.next;have t6:=x6.next
 have cG:h5.lift.next=h5.next:=rfl
 have M6:=Brh s (h0:=h4) T (dr.ext fun i o g=>x6.at G g) ⟨⟨by omega,by omega⟩,by omega,by omega,nd.2.2.2⟩ (MA.ext k6) (PA.ext k6) ⟨⟨by omega,by omega⟩,by omega,by omega,fun d hd=>by have:=nm.2.2.2 d hd;omega⟩ (by omega);have al:=x6.at G ae;simp only[Aa,I,Ac];rw[Cy al rfl,Ak (n:=6) rfl]
 try simp only[Aa]
 rw[show EV.agg (gL g)=gV g from rfl];refine(Axa (K:=K) hr T).Am ?_;rintro _ h7 ⟨b,ml,ll,rfl,mp,x7,U,lb,c6,c7⟩;simp only[Aa,I,Ac,aC,aA,Sh];have c8:=U _ _ mp.map;have c9:=U _ _ mp.row;have da:=U _ _ mp.live;have M7:Df h7 m (Mi.new g) (fun i=>i<h4.next\/i=b\/i=ml\/i=ll):=(M6.ext T x7).less fun i j=>by
  rcases j with j|j|j|j
  ·exact .inl j
  ·exact .inr ⟨by omega,by omega⟩
  ·exact .inr ⟨by omega,by omega⟩
  ·exact .inr ⟨by omega,by omega⟩
 have bp:Ext h h7:=(((aa.trans x4).trans x5).trans x6).trans x7;refine A27 (K:=K) A hK (d:=e) (by omega) hr U (v1:=h.next) (L:=h4.next) (x7.at T al) mp ⟨by omega,by omega,by omega⟩ M7 (by omega) fun H ar dc M8 ao W k8 t=>?_
 simp only[F2,dr];rw[Aw (l:=[I 0,I 1,I 1]) rfl]
 try simp only[Aa]
 rw[A89,Ap];have x9:Ext H ((H.new (.cells [I 0,I 1,I 1] 104)).new (.cells [.ptr m 0,.ptr ar 0,.ptr b 0,I 0,I 1,I 1,.bool false] 130)):=(Au.new _ _).C8 _;have g9:((H.new (.cells [I 0,I 1,I 1] 104)).new (.cells [.ptr m 0,.ptr ar 0,.ptr b 0,I 0,I 1,I 1,.bool false] 130)).get (H.next+1)=some (.cells [.ptr m 0,.ptr ar 0,.ptr b 0,I 0,I 1,I 1,.bool false] 130):=Ad _ _;generalize (H.new (.cells [I 0,I 1,I 1] 104)).new (.cells [.ptr m 0,.ptr ar 0,.ptr b 0,I 0,I 1,I 1,.bool false] 130)=h9 at x9 g9⊢;have aq:=x9.hb t;have l9:=aq _ _ g9;have e2:(Co.start g).S.g=g:=(Ak5 (Ve g) (Vb g) (Mi.new g) (g.D*g.Z).toNat).2.1;have dg:=t _ _ ao;have di:=t _ _ W.map;have dj:=t _ _ W.row;have dm:=t _ _ W.live;have t8:=k8.next
 have M9:=M8.ext t x9;have au:Kf (fun i=>i<h.next) h h9:=(Ext.kf bp).trans ((k8.trans (Ext.kf x9)).mono fun i j y=>j (by have y:i<h.next:=y;show i<h4.next;omega));have C9:Cu h9 ⟨H.next+1,ar,m,b,ml,ll⟩ (Co.start g) (fun i=>i<h.next):=by
  refine⟨M9.less fun i j=>?_,g9,x9.at t ao,?_,Co.Bl4 hr,fun i j y=>?_,aq⟩
  ·rcases j with j|j|j|j|j|j
   ·exact .inl (.inl (show i<h4.next by have j:i<h.next:=j;omega))
   ·exact .inr ⟨by have j:i=H.next+1:=j;omega,by have j:i=H.next+1:=j;omega⟩
   ·exact .inl (.inr (.inr (.inr (.inr j))))
   ·exact .inl (.inr (.inl j))
   ·exact .inl (.inr (.inr (.inl j)))
   ·exact .inl (.inr (.inr (.inr (.inl j))))
  ·show Lj h9 b ml ll (Co.start g).S.g _
   rw[e2];exact W.ext fun i o g=>x9.at t g
  ·have j:i<h.next:=j
   rcases y with y|y|y|y|y
   ·have y:i=H.next+1:=y;omega
   ·have y:i=ar:=y;omega
   ·have y:i=b:=y;omega
   ·have y:i=ml:=y;omega
   ·have y:i=ll:=y;omega
 try simp only[Aa]
 refine Ok.Am (N8 A hK C9 (d:=e) (by omega)) ?_;rintro _ dw ⟨e10,Y,rfl,u⟩;have eg:Y.S.g=g:=u.ck.g.trans e2;have es:(Co.start g).S.evs<=0:=by
  unfold Mi.evs;rw[show(Co.start g).S.dr=(Mi.new g).dr from(Ak5 (Ve g) (Vb g) (Mi.new g) (g.D*g.Z).toNat).2.2];exact aD _
 have ev:Y.S.evs<=0:=by
  show Y.S.dr.ev.length+Y.S.dr.Pd.length<=_;rw[u.ck.dr.ev];exact es
 simp only[I,Ac];by_cases k0:e10=0
 ·simp only[k0,aC,aA,Aa,T4]
  exact .ret ⟨au.trans u.k,u.hb,.inr ⟨⟨H.next+1,ar,m,b,ml,ll⟩,Y,rfl,u.C,by show h.next<=H.next+1;omega,eg,ev⟩⟩
 ·simp only[k0,aF,aB,Aa]
  exact .ret ⟨au.trans u.k,u.hb,.inl rfl⟩
structure Ag7 where
 kind:Int
 x:Int
 y:Int
 ev:Lg
def Ag7.cells(o:Ag7):List EV:=[I o.kind,I o.x,I o.y]++o.ev.cells
theorem Ag7.len {o:Ag7}(w:o.ev.Wf):o.cells.length=71:=by
 unfold Ag7.cells;rw[aG,Lg.Az w];rfl
theorem Bl0 {o:Ag7}(w:o.ev.Wf):Mj o.cells 3 68=some o.ev.cells:=by
 have e:o.cells = [I o.kind,I o.x,I o.y]++o.ev.cells:=rfl;rw[e,E6 (by rw[aG,Lg.Az w];exact aD _),show(3:Nat) = [I o.kind,I o.x,I o.y].length from rfl,dG,<-Lg.Az w,cL]
theorem A50{v1:Nat}{o:Ag7}(a:h.get v1=some (.cells o.cells 62))(k:EV->R):Fy (.ptr v1 0) h k=k (I o.kind)/\Fy (.ptr v1 1) h k=k (I o.x)/\Fy (.ptr v1 2) h k=k (I o.y):=⟨Ah a rfl rfl,Ah a rfl rfl,Ah a rfl rfl⟩
def DoS(h:Ab)(B:Cb)(X:Co)(F:Nat->Prop)(q:Nat)(s:Sb)(kind:Int):EV->Ab->Prop:=fun v h'=>
 ∃(ok:Bool) (e:Int) (Y:Co) (s':Sb),v=.tuple [.bool ok,I e]/\Cu h' B Y F/\Y.S.g=X.S.g/\Y.S.evs<=X.S.evs+1/\Au (fun i=>¬F i\/i=q) h h'/\Se h' q B.c s' /\
  ((ok=false/\s'=s/\(¬kind=5\/e=34))\/(kind=5/\¬e=34/\∃(de:Bool) (ba:Int),s'=s.next X.S.g.B ok de (if s.cu=0 then s.st+1 else s.be) ba/\ok=(decide ((s.cu+1)%(X.S.g.B+3)=0)&&!de)))
theorem Bl8 {Y:Co}(k:Ck X Y):Y.S.evs<=X.S.evs+1:=by
 show Y.S.dr.ev.length+Y.S.dr.Pd.length<=_;rw[k.dr.ev];exact fL _
theorem Bt5(n:Int):Cx .u8 n=Int.ofNat (wb n):=by
 rw[Ns];unfold wb;have a:IntKind.u8.wrap n=n%256:=rfl;rw[a];show _=(((n%256).toNat:Nat):Int);omega
theorem Bp2(A:Bw disp)(H105:disp 105=some Bal)(H27:disp 27=some (Acz F27))(hK:3000000<K){s:Sb}(C:Cu h B X F)(H:F q)(g:Se h q B.c s)(c0:0<=s.cu)(c1:s.cu<X.S.g.B+3)(t0:0<=s.st)(t1:s.st<1000)
 {o:Ag7} (w:o.ev.Wf) (hv:X.S.evs<=199) (hd:33<=d) (cur:∀e,d-5<=e->Awh disp K e) :
 Ok (Ag TT disp K d false 32 [.agg o.cells,.ptr B.c 0,.ptr q 0] h) (DoS h B X F q s o.kind):=by
 obtain⟨e,rfl⟩:∃k,d=k+1:=⟨d-1,by omega⟩;rw[Aj0 A (by omega)];simp only[Abx,Aa];have ol:=Ag7.len w;obtain⟨u,U,x1,E,n1⟩:=nW h (.cells o.cells 62);rw[U];have t:=C.Xa x1;have gq:=t.sb C.hb H g;have e0:∀k:EV->R,Fy (.ptr h.next 0) u k=k (I o.kind):=fun k=>(A50 E k).1
 have e1:∀k:EV->R,Fy (.ptr h.next 1) u k=k (I o.x):=fun k=>(A50 E k).2.1
 have e2:∀k:EV->R,Fy (.ptr h.next 2) u k=k (I o.y):=fun k=>(A50 E k).2.2
 have still:∀{h':Ab} {Y:Co} {J:Int},¬o.kind=5->Ex h h' B X F Y->DoS h B X F q s o.kind (.tuple [.bool false,I J]) h':=fun V c=>
  ⟨false,_,_,s,rfl,c.C,c.ck.g,Bl8 c.ck,Au.mono c.k fun i y=>.inl y,c.sb C.hb H g,.inl ⟨rfl,rfl,.inl V⟩⟩
 have fin:∀{x:R},¬o.kind=5->Ec x u B X F->Ok (Am x fun v h=>some (.tuple [.bool false,v],h)) (DoS h B X F q s o.kind):=fun V a=>by
  refine Ok.Am a ?_;rintro _ h' ⟨e,Y,rfl,c⟩;exact .ret (still V (t.trans c))
 rw[e0];simp only[I,Ac];by_cases k1:o.kind=1
 ·rw[aJ k1]
  simp only[Aa,Ar];have lt:h.next<u.next:=by omega
  rw[Gy lt,e1]
  try simp only[Aa,Ar]
  rw[Gy lt,e2];simp only[Aa,Ar,I,A5p];rw[Bt5];refine Ok.bE (Bke (K:=K) (by omega) (wb o.y) t.C.lift.hb) (fun _ _ p=>p.2.1) ?_;rintro _ Z h2 ⟨rfl,xf,ay⟩ sm x2;have O:=t.trans (t.C.Xa x2);have wf:(⟨o.x,List.replicate 32 (wb o.y)⟩:Wr).Wf:=⟨bT,fun b hb=>by rw[bc hb];exact Bt2 _⟩;rw[show EV.int .i64 o.x=I o.x from rfl,Aw (Br1 _ (by simp))];generalize (⟨o.x,List.replicate 32 (wb o.y)⟩:Wr)=W at wf⊢;simp only[Aa,Ar];rw[Sl (v:=.agg W.cells) rfl (by simp) (Wr.len wf) (by omega),Ap];have az:=O.hb;obtain⟨G,U,P,g3,n3⟩:=nW h2 (.cells (EV.cells (.agg W.cells)) 112);rw[U];have q3:=O.trans (O.C.Xa P);have C3:Cu G.lift B X (fun i=>F i\/i=h2.next):=by
   refine((O.C.ext P).less fun i hi=>?_).lift;rcases hi with hi|rfl
   ·exact .inl hi
   ·exact .inr ⟨by omega,by omega⟩
  have WA:Axu G.lift (.slice h2.next 0 1 1 false) h2.next [W]:=by
   refine⟨.inr ⟨0,1,false,rfl,fun j hj k=>?_⟩,fun x hx=>by rw[aP.1 hx];exact wf⟩;have:j=0:=by simpa using hj
   subst this;have ad:G.lift.get h2.next=some (.cells W.cells 112):=by rw[Br];exact g3
   exact Cn ad rfl (Ak (Wr.len wf))
  refine Ok.bC (S:=fun j=>¬(F j\/j=h2.next)) (A26 A hK (F:=fun i=>F i\/i=h2.next) (fun _=>.inr rfl) (by simp) (d:=e) (by omega) C3 WA) (fun _ _ p=>by obtain⟨_,_,_,c⟩:=p;exact c.k) ?_;rintro _ bf h4 s' ⟨J,Y,rfl,c4⟩ ae af bj;have c5:Ex G h4 B X F Y:=⟨(c4.C.same ae).less fun _=>.inl,Kf.less (F:=fun j=>F j\/j=h2.next) af fun _=>.inl,c4.ck⟩;exact .ret (still (by omega) (q3.trans c5))
 simp only[k1,aA,Aa];by_cases k2:o.kind=2
 ·rw[aJ k2]
  simp only[Aa];rw[e1];exact fin (by omega) (A7t A (by omega) t.C (d:=e) (by omega) _ 1)
 rw[aK k2];simp only[Aa];by_cases k3:o.kind=3
 ·rw[aJ k3]
  simp only[Aa];rw[e1];refine Ok.Am (A6q A (by omega) t.C (d:=e) (by omega) _) ?_;rintro _ h2 ⟨bl,e4,Y,rfl,ag,c2⟩;simp only[Aa];refine Ok.mk (by simp) (by rw[Bg,ag]) fun G P _ _=>?_
  have c2:=t.trans c2;exact .ret (still (by omega) (c2.trans (c2.C.Xa P)))
 rw[aK k3];simp only[Aa];by_cases k4:o.kind=4
 ·rw[aJ k4]
  simp only[Aa];exact fin (by omega) (N8 A (by omega) t.C (d:=e) (by omega))
 rw[aK k4];simp only[Aa];by_cases T:o.kind=5
 ·rw[aJ T]
  simp only[Aa];refine Ok.Am (Ast A (by omega) H27 t.C H gq c0 c1 t0 t1 (d:=e) (by omega) fun k hk=>cur k (by omega)) ?_;rintro _ h2 ⟨ok,J,Y,s',rfl,C2,ck,x2,g2,_,w2⟩;simp only[Aa];refine .ret ⟨ok,J,Y,s',rfl,C2,ck.g,Bl8 ck,(Au.mono t.k fun i y=>.inl y).trans x2,g2,?_⟩;rcases w2 with⟨a,b,c⟩|⟨a,b⟩
  ·exact .inl ⟨b,c,.inr a⟩
  ·exact .inr ⟨T,a,b⟩
 rw[aK T];simp only[Aa];by_cases k6:o.kind=6
 ·rw[aJ k6]
  simp only[Aa,Ar];have l1:=t.hb _ _ E;rw[Afk (v:=.ptr B.m 0) (by simp only[Dc,Aa];rw[t.C.lift.ldM])];obtain⟨D,dd,dp⟩:=Bm1 (K:=K) A H105 (by omega) t.C.lift.M t.C.lift.hb w hv;rw[Afk dd]
  try simp only[Aa,Ar]
  rw[Gy (show h.next<u.next by omega),Cn E rfl (Bl0 w)]
  try simp only[Aa,Ar]
  refine Ok.bC (S:=fun i=>¬B.fr F i) (dp (d:=e) (by omega)) (fun _ _ p=>by obtain⟨_,_,_,a,_⟩:=p;exact a) ?_;rintro _ Z h2 s' ⟨l,hl,M',_,ah⟩ sm ch bx;simp only[O5,dr];have p:=t.C.Bou hl (M'.same sm) ch (sm.hb ah);have gp:Se h2 q B.c s:=by
   show h2.get q=_;rw[p.k.get _ (t.hb _ _ gq) fun w=>w H];exact gq
  exact .ret ⟨false,0,_,s,rfl,p.C,p.g,p.ev,Au.mono (t.k.trans p.k) fun i y=>.inl y,gp,.inl ⟨rfl,rfl,.inl (by omega)⟩⟩
 rw[aK k6];simp only[Aa,O5,dr];exact .ret (still T t)
variable {o:Ag7}
structure Axz(h:Ab)(v:EV)(b:Nat)(L:List Ag7):Prop where
 row:(L = []/\lenOf v=some 0)\/∃off r op,v=.slice b off L.length r op/\∀j (hj:j<L.length) (k:EV->R),Q2 71 (.ptr b (off+j*71)) h k=k (.agg L[j].cells)
 wf:∀o∈L,o.ev.Wf
theorem Axz.frame {h':Ab}{L:List Ag7}(r:Axz h v b L)(e:0<L.length->h'.get b=h.get b):Axz h' v b L:=by
 refine⟨?_,r.wf⟩;rcases r.row with y|⟨off,a,op,rfl,y⟩
 ·exact .inl y
 ·refine .inr ⟨off,a,op,rfl,fun j hj k=>?_⟩
  have:=y j hj k;show oB _ (Awt (h'.get b) _ 71)=_;rw[e (by omega)];exact this
theorem Axz.Hc{L:List Ag7}(r:Axz h v b L)(k:EV->R):Ev.Hc v k=k (I L.length):=by
 rcases r.row with⟨rfl,y⟩|⟨off,a,op,rfl,_⟩
 ·unfold Ev.Hc;rw[y];rfl
 ·rfl
theorem Axz.at{L:List Ag7}(r:Axz h v b L){j:Nat}(hj:j<L.length)(k:EV->R):Aal 71 v (.int .i64 (j:Int)) (fun p=>Q2 71 p h k)=k (.agg L[j].cells):=by
 rcases r.row with⟨rfl,_⟩|⟨off,a,op,rfl,y⟩
 ·exact absurd hj (cn _)
 ·rw[N5 hj];exact y j hj k
theorem Br9(k:EV->R):Ko Aj7 (bin TT .eql 26) .Bu .Bu k=k (.bool true):=by
 show oB k (bin TT .eql 26 .Bu .Bu)=_;rw[show bin TT .eql 26 .Bu .Bu=some (.bool true) by kernel_rfl];rfl
theorem Bto(a:Nat)(k:EV->R):Ko Aj7 (bin TT .eql 26) (.ptr a 0) .Bu k=k (.bool false):=by
 show oB k (bin TT .eql 26 (.ptr a 0) .Bu)=_;rw[show bin TT .eql 26 (.ptr a 0) .Bu=some (.bool false) by kernel_rfl];rfl
section
theorem Bef(A:Bw disp)(C:Cu h B X F)(u:∀v h' Y,Ex h h' B X F Y->Y.es=X.es->Y.S.dr.dv.down=true->Ok (k v h') Q):
 Ok (Am (Bj K (.ptr B.m 0) h) fun v h=>Am (Db K v h) fun v h=>Am (J5 K v h) k) Q:=by
 obtain⟨lt,D,p,bl,ql,np,y,E,G,a⟩:=C.M.s;rw[Mq a.Hf,Ap];obtain⟨V,H,qc,qh,cs,hs,ms,F',j⟩:=a.drv.Mn;rw[Ajo j,Ap];refine(Axd (K:=K) j.dev C.hb).Am ?_;rintro v h' ⟨d2,c2,t⟩;obtain⟨s2,c3⟩:=a.drv.put j C.hb (d2.grow j.dev.lt c2.next) c2;obtain⟨M2,x⟩:=C.M.drv C.hb a s2 c3;exact u v h' _ (C.Hf M2 x t (Aya (A4x (D:=X.S.dr.dv.Bod) ⟨rfl,rfl,rfl⟩))) rfl rfl
theorem But(a b:Bool)(k:EV->R):Ko Aj7 (bin TT .eql 4) (.bool a) (.bool b) k=k (.bool (a == b)):=by
 have e:bin TT .eql 4 (.bool a) (.bool b)=some (.bool (a == b)):=by cases a<;>cases b<;>kernel_rfl
 show oB k (bin TT .eql 4 (.bool a) (.bool b))=_;rw[e];rfl
section
variable (A:Bw disp)(H105:disp 105=some Bal)(H27:disp 27=some (Acz F27))(hK:3000000<K)(hd:33<=d)(cur:∀e,d-5<=e->Awh disp K e){N:Nat}
include A H27 hK hd cur
theorem Bn7{s:Sb}(C:Cu h B X F)(u:F q)(g:Se h q B.c s)(O:0<=s.cu)(c1:s.cu<X.S.g.B+3)(t0:0<=s.st)(t1:s.st<1000)(hN:∀j,j<N->F j/\j≠q):
 Ok (K6 (Ag TT disp K d false) (Ag TT disp K d true) K (.ptr B.c 0) (.ptr q 0) h) fun v h'=>v=.bool true/\∀j,j<N->h'.get j=h.get j:=by
 simp only[K6,Dc,Aa];rw[C.ldM]
 try simp only[Aa]
 refine Bef A C fun _ h1 Y m ee dn=>?_
 have D:=m.sb C.hb u g;have eg:Y.S.g=X.S.g:=m.ck.g
 try simp only[Aa]
 rw[A5a (B:=B) D,Ap,A09 (B:=B) D,Ap,A45 (B:=B) D,Ap];simp only[E8,Aa];rw[m.C.ldB]
 try simp only[Aa]
 refine(Tf (K:=K) m.C.sm m.C.map m.C.hb s.cu).Am ?_;rintro _ h2 ⟨rfl,x2⟩;have c2:=m.trans (m.C.Xa x2);have hl:=m.C.map.len;have hB:=m.C.sm.b0;have T:s.cu<Y.S.g.B->(Aeu Y.es s.cu).2=0:=fun y=>by unfold Aeu;rw[aQ ⟨O,by omega⟩]
 generalize hP:Aeu Y.es s.cu=P at T⊢;obtain⟨x,n⟩:=P;simp only[Aa];refine Ok.mk rfl rfl fun h3 U e3 _=>?_
 have c3:=c2.trans (c2.C.Xa U);have g3:=c3.sb C.hb u g;have E:=c3.hb;have V:=E _ _ e3;have G:Cu h3 B Y (fun j=>F j\/j=h2.next):=(c2.C.ext U).less fun j hj=>by
  rcases hj with hj|rfl
  ·exact .inl hj
  ·exact .inr ⟨aD _,V⟩
 have n1:=c2.k.next
 refine Ok.Am (Ast A (by omega) H27 G (.inl u) g3 O (by rw[eg];exact c1) t0 t1 (d:=d) (by omega) fun e he=>cur e (by omega)) ?_;rintro _ h4 ⟨ok,e,Z,s',rfl,C4,_,W,t,pe,w⟩;have e4:h4.get h2.next=some (.cells x.cells 53):=by
  rw[W.get _ V fun y=>by rcases y with y|y;exact y (.inr rfl);have:=C.hb _ _ g;omega];exact e3
 have p:∀j,j<N->h4.get j=h.get j:=fun j hj=>by
  obtain⟨a,b⟩:=hN j hj;have lj:=C.M.lt _ (.inl a);have ln:=c3.k.next
  rw[W.get _ (by omega) fun y=>by rcases y with y|y;exact y (.inl a);exact b y,c3.k.get _ lj fun y=>y a]
 rw[hP]at pe;have aj:D6 (.tuple []) false=false/\D6 (.tuple []) true=false:=⟨rfl,rfl⟩;simp only[Aa,I,Ac];rcases pe dn with H|⟨y0,yb,ys⟩
 ·subst H
  obtain⟨_,ro,rs⟩|⟨z,_⟩:=w
  case inr=>exact absurd rfl z
  subst ro rs;simp only[show decide ((34:Int)=0)=false from rfl,Aa,R6,I,Ac,aB,Ch,Rs];rw[A5a (B:=B) t,Ap];simp only[I,Ac,aB,Aa,Ch,R8];rw[A09 (B:=B) t,Ap];simp only[I,Ac,aB,Aa,Ch,Rx];rw[A45 (B:=B) t,Ap,But];simp only[Aa,Rw];exact .ret ⟨by simp,p⟩
 ·subst y0
  obtain⟨z,_⟩|⟨_,de,ba,rs,_⟩:=w
  case inl=>cases z
  have J:=T yb;have J:n=0:=J;have st:s'.st=s.st+1:=by rw[rs];rfl
  simp only[aB,Aa,J,Ch];rw[Ah e4 rfl (v:=I x.state) rfl];simp only[I,Ac];rw[aJ ys];simp only[R9,Aa,Ch];rw[A09 (B:=B) t,Ap];simp only[I,Ac];rw[Cg,st];simp only[aB,Rl,Aa];exact .ret ⟨rfl,p⟩
include H105
theorem Bhb {L:List Ag7}(hL:L.length<=120)(J:F q)(fo:0<L.length->F bo/\bo≠q)(p:∀j,j<N->F j/\j≠q):
 ∀(f i:Nat) (h:Ab) (X:Co) (s:Sb),L.length-i<f->i<=L.length->Cu h B X F->Se h q B.c s->0<=s.cu->s.cu<X.S.g.B+3->0<=s.st->s.st<=i->X.S.evs<=i->Axz h vo bo L ->
 Ok (E4 (Ag TT disp K d false) (Ag TT disp K d true) K f (.ptr B.c 0) (.ptr q 0) vo (I L.length) (I i) h) fun v h'=>v=.bool true/\∀j,j<N->h'.get j=h.get j:=by
 intro f;induction f with
 | zero=>intro i h X s P;omega
 | succ f T=>
  intro i h X s P hi C g t c1 t0 t1 hv u;rw[E4];simp only[I,Ac];by_cases m:i<L.length
  case neg=>
   have:decide ((i:Int)<(L.length:Int))=false:=by simp;omega
   simp only[this,Aa];exact Bn7 A H27 hK hd cur C J g t c1 t0 (by omega) p
  have:decide ((i:Int)<(L.length:Int))=true:=by simp;omega
  simp only[this,Aa,Qf];rw[u.at m];have w:=u.wf _ (av m);generalize L[i]=o at w⊢;have ol:=Ag7.len w
  try simp only[Aa]
  refine Ok.mk (by simp) ol fun h1 x U n1=>?_
  have hb:=C.hb;have V:=(C.Xa x).C;rw[Cn U rfl (Ak ol)]
  try simp only[Aa]
  refine Ok.Am (Bp2 A H105 H27 hK V J (x.at hb g) t c1 t0 (by omega) w (by omega) hd cur) ?_;rintro _ h2 ⟨ok,e,Y,s',rfl,W,E,Z,x2,G,D⟩;have a:∀j,F j->j≠q->h2.get j=h.get j:=fun j O nj=>by
   have lj:=C.M.lt _ (.inl O);rw[x2.get _ (by omega) fun y=>by rcases y with y|y;exact y O;exact nj y,x.get _ lj id]
  have H:Axz h2 vo bo L:=u.frame fun y=>a bo (fo y).1 (fo y).2
  have sB:=C.sm.b0;have st:0<=s'.cu/\s'.cu<Y.S.g.B+3/\0<=s'.st/\s'.st<=s.st+1:=by
   rw[E];rcases D with⟨_,es,_⟩|⟨_,_,de,ba,es,_⟩
   ·subst es;exact⟨t,c1,t0,by omega⟩
   ·rw[es]
    exact⟨Int.emod_nonneg _ (by omega),Int.emod_lt_of_pos _ (by omega),by show 0<=s.st+1;omega,fY _⟩
  simp only[Rc,I,Ac];rw[Cg,show((i:Nat):Int)+1=((i+1:Nat):Int) by omega];exact(T (i+1) h2 Y s' (by omega) (by omega) W G st.1 st.2.1 st.2.2.1 (by omega) (by omega) H).mono fun v h' w=>⟨w.1,fun j hj=>(w.2 j hj).trans (a j (p j hj).1 (p j hj).2)⟩
end
theorem Bkk(A:Bw disp)(H105:disp 105=some Bal)(H27:disp 27=some (Acz F27))(hK:3000000<K)(hd:33<=d)(cur:∀e,d-5<=e->Awh disp K e)(t:∀h,Ag TT disp K d false 29 [] h=some (.bool true,h))(g:Gm)(hb:HB h){L:List Ag7}(R0:Axz h vo bo L)(u:0<L.length->bo<h.next):
 Ok (Oc (Ag TT disp K d false) (Ag TT disp K d true) K (gV g) vo h) fun v h'=>v=.bool true/\∀i,i<h.next->h'.get i=h.get i:=by
 simp only[Oc,gV,Aa,t];obtain⟨x,C,H,O,W⟩:=nW h (.cells (gL g) 23);rw[C];have D:=H.hb hb;simp only[P8,Aa];rw[Cy O rfl,Ak (n:=6) rfl]
 try simp only[Aa]
 rw[show EV.agg (gL g)=gV g from rfl];refine(A7r (K:=K) A (by omega) (d:=d) (by omega) g D).Am ?_;rintro v h2 ⟨J,P,S⟩;have T:D6 (.tuple []) false=false/\D6 (.tuple []) true=false:=⟨rfl,rfl⟩;have a:∀i,i<h.next->h2.get i=h.get i:=fun i m=>by rw[J.get i (by omega) fun y=>y (show i<x.next by omega),H.get i m id]
 have R2:Axz h2 vo bo L:=R0.frame fun y=>a bo (u y)
 have t2:=J.next
 rcases S with rfl|⟨B,Y,rfl,U,Z,gY,eY⟩
 ·rw[Br9]
  simp only[Aa,Ch,Gj];exact .ret ⟨rfl,a⟩
 rw[Bto];simp only[Aa,Ch];rw[R2.Hc];simp only[I,Ac];by_cases p:120<(L.length:Int)
 ·simp only[p,aB,Aa,Ch,Gj]
  exact .ret ⟨rfl,a⟩
 simp only[p,aA,Aa,Ch,Gj,Qa,Axy];rw[Aw (l:=(⟨0,false,0,0,0,0,0⟩:Sb).cells B.c) rfl];simp only[Aa];obtain⟨E,C,G,V,n3⟩:=nW h2 (.cells ((⟨0,false,0,0,0,0,0⟩:Sb).cells B.c) 146);rw[C];have R3:Axz E vo bo L:=R2.frame fun y=>G.get _ (by have:=u y;omega) id
 rw[R3.Hc];have M:Cu E B Y (fun i=>i<x.next\/i=h2.next):=(U.ext G).less fun i m=>by
  rcases m with m|rfl
  ·exact .inl m
  ·exact .inr ⟨aD _,by omega⟩
 have sB:=M.sm.b0;refine(Bhb A H105 H27 hK hd cur (N:=h.next) (by omega) (q:=h2.next) (F:=fun i=>i<x.next\/i=h2.next) (.inr rfl) (fun y=>by have:=u y;exact⟨.inl (by omega),by omega⟩) (fun j hj=>⟨.inl (by omega),by omega⟩) K 0 E Y ⟨0,false,0,0,0,0,0⟩ (by omega) (by omega) M V (fY _) (by show(0:Int)<_;omega) (fY _) (fY _) (by omega) R3).mono ?_;rintro v h' ⟨rfl,w⟩;exact⟨rfl,fun i m=>by rw[w i m,G.get i (by omega) id,a i m]⟩
end
def Bnk(disp:Nat->Option FT)(K d:Nat)(Azq:List (List EV)->Prop):Prop:=∀{h:Ab} {B:Cb} {X:Co} {F:Nat->Prop} {q:Nat} {s:Sb},Cu h B X F->F q->Se h q B.c s->∀z:Int,Qu z ->
 Ok (Ag TT disp K d false 242 [.ptr q 0,I z] h) fun v h'=>∃(a:EV) (ok:Bool) (e:Int) (Y:Co) (j:Nat) (L:List (List EV)),v=.tuple [a,.bool ok,I e]/\Ex h h' B X F Y/\(¬e=0\/ok=false\/(Cc h' a j 30 64 L.length L.flatten/\Azq L))/\(X.S.dr.dv.down=true->Y.S.dr.dv.down=true/\(e=34\/e=0/\L = []))
def A7y(disp:Nat->Option FT)(K d:Nat)(Azq:List (List EV)->Prop):Prop:=∀{h:Ab} {j:EV} {m:Nat} {L:List (List EV)} (z:Int),Qu z->HB h->Cc h j m 30 64 L.length L.flatten->Azq L ->
 Ok (Ag TT disp K d false 243 [Uh,I z,j] h) fun v h'=>∃(a:Int) (b c p:EV) (e:Int),v=.tuple [.agg [I a,b,c,p],I e]/\Ext h h'/\(L = []->¬e=0)
theorem Blw{ar m:Nat}{cur:Nat->Int}(j:h.get ar=some (.cells (arC m cur Cv) 212))(a:i<3):Tq K (.ptr ar 0) (I i) h=some (.tuple [I (cur i),I (Cv i)],h):=by
 simp only[Tq,dr];rw[Bl7 a,Ap];simp only[Aa,Ada];unfold I;rw[Vo a]
 try simp only[Aa,cz]
 rw[Ah j rfl (Bkr a),Vo a]
 try simp only[Aa]
 rw[Ah j rfl (Bla a)]
theorem Brl:TT.size 104=some 3/\TT.agg 104=some true:=⟨by kernel_rfl,by kernel_rfl⟩
theorem Ben(C:Cu h B X F):Ok (Rt K (.ptr B.c 0) h) fun v h'=>v=.agg [I X.gen,I X.ep,I X.nx]/\Ext h h':=by
 simp only[Rt,Aa];have gc:(h.new (.cells [.int .i64 0,.int .i64 0,.int .i64 0] 104)).get B.c=some (.cells (X.cells B) 130):=Ext.at (Au.new h _) C.hb C.core;rw[Cn gc rfl (l':=[I X.gen,I X.ep,I X.nx]) rfl];refine Ok.st [I X.gen,I X.ep,I X.nx] (Ad _ _) rfl rfl rfl ?_;rw[Qo (Ae _ _ _) Brl.1 Brl.2 rfl];exact .ret ⟨rfl,(Au.new h _:Ext _ _).Ao (.inr (aD _)) (aR _) _⟩
theorem Bb7(A:Bw disp)(hK:10000<K){Azq:List (List EV)->Prop}(hd:22<=d)(hR:Bnk disp K (d-1) Azq)(hP:A7y disp K (d-1) Azq):Awh disp K d:=by
 intro h B X F q s C H g j j0 j3;obtain⟨e,rfl⟩:∃k,d=k+1:=⟨d-1,by omega⟩;rw[Ak9 A (by omega)];simp only[Aem,Aa];rw[Ah g rfl rfl];simp only[Ac1,Aa];rw[C.Gy]
 try simp only[Aa]
 obtain⟨i,rfl⟩:=aZ j0;rw[Blw C.ar (i:=i) (by omega),Ap];have J:Qu (X.cur i):=by
  have bd:=C.sm.Agt;rcases C.wf.an.cur i (by omega)with y|y
  ·rw[y];exact⟨by omega,by omega⟩
  ·rcases Aew C.sm (X.cur i)with z|⟨d0,d1,d2,d3,d4⟩
   ·omega
   ·exact⟨by omega,by omega⟩
 generalize X.cur i=z at J⊢;simp only[Aa,I,Ac];have ae:D6 (.tuple []) false=false/\D6 (.tuple []) true=false:=⟨rfl,rfl⟩;by_cases U:z = -1
 ·rw[aJ U]
  simp only[Aa,Ch,La];exact Vy.ret (Ex.refl C) fun y=>⟨y,.inr ⟨rfl,rfl⟩⟩
 rw[aK U];simp only[Aa,Ch];rw[Ah g rfl rfl];simp only[Dc,Aa];rw[C.ldM]
 try simp only[Aa]
 refine(Jg (K:=K) C.M.s C.hb J).Am ?_;rintro _ h2 ⟨rfl,x2⟩;have c2:=C.Xa x2;have g2:=c2.sb C.hb H g;cases X.S.Jr z with
 | true=>
  simp only[Aa,La];exact Vy.ret c2 fun y=>⟨y,.inr ⟨rfl,rfl⟩⟩
 | false=>
 simp only[Aa,La,Xz];refine Ok.Am (hR c2.C H g2 z J) ?_;rintro _ O ⟨V,ok,e3,Y,W,L,rfl,P,hL,dn⟩;have c3:=c2.trans P;have g3:=c3.sb C.hb H g;simp only[Aa,I,Ac];by_cases u:e3=0
 case neg=>
  rw[aJ u];simp only[Aa,Ch,K1];exact Vy.ret c3 fun y=>⟨(dn y).1,(dn y).2.elim .inl fun z=>absurd z.1 u⟩
 rw[aK (show ¬¬e3=0 from fun y=>y u)];simp only[Aa,Ch];cases ok with
 | false=>
  simp only[Aa,K1];exact Vy.ret c3 fun y=>⟨(dn y).1,.inr ⟨rfl,u⟩⟩
 | true=>
 simp only[Aa,K1,Yx];rw[Ah g3 rfl rfl];simp only[Dc,Aa];rw[c3.C.ldM]
 try simp only[Aa]
 obtain⟨t,hS⟩:Cc O V W 30 64 L.length L.flatten/\Azq L:=by
  rcases hL with y|y|y
  ·exact absurd u y
  ·cases y
  ·exact y
 have tb:Ok (F6 K (.ptr B.m 0) O) fun v h'=>v=Uh/\Ext O h':=by
  obtain⟨lt,D,p,bl,ql,np,qq,cc,G,a⟩:=c3.C.M.s;exact Ann a.Hf c3.hb
 refine tb.Am ?_;rintro _ h4 ⟨rfl,Z⟩;have c4:=c3.trans (c3.C.Xa Z);have E:Cc h4 V W 30 64 L.length L.flatten:=t.frame fun y=>Z.get _ (c3.hb _ _ (t.block y)) id
 refine(hP z J c4.hb E hS).Am ?_;rintro _ h5 ⟨a,b,c,p,er,rfl,x5,ne⟩;have c5:=c4.trans (c4.C.Xa x5);simp only[Aa];refine Ok.mk rfl rfl fun h6 x6 g6 n6=>?_
 have x:=c5.trans (c5.C.Xa x6);have gs:=x.sb C.hb H g;have ls:=x.hb _ _ gs;simp only[I,Ac];by_cases T:er=0
 case neg=>
  rw[aK T];simp only[Aa,Ch,K5];exact Vy.ret x fun y=>⟨(dn y).1,.inr ⟨rfl,rfl⟩⟩
 rw[aJ T];simp only[Aa,Ch];rw[Gy (show h5.next<h6.next by omega),Ah g6 rfl (v:=I a) rfl]
 try simp only[Aa,Ar]
 rw[Gy ls,Ah gs rfl rfl]
 try simp only[Aa,Ar]
 refine Ok.bE (Ben (K:=K) x.C.lift) (fun _ _ p=>p.2) ?_;rintro _ ax h7 ⟨rfl,_⟩ sm x7;simp only[Aa,I,Ac,K5];exact Vy.ret (x.trans (x.C.Xa x7)) fun y=>⟨(dn y).1,absurd T (ne ((dn y).2.elim (fun z=>absurd (u.symm.trans z) (by decide)) fun z=>z.2))⟩
theorem A7x(A:Bw disp)(hK:10000<K)(C:Cu h B X F)(hd:17<=d)(z off:Int)
 (t:∀(l:List EV) (e:Int) h' Y,l.length=64->U8 l->Ex h h' B X F Y->(X.S.dr.dv.down=true->e=34/\Y.S.dr.dv.down=true)->Ok (k (.tuple [.agg l,I e]) h') Q) :
 Ok (Am (Bj K (.ptr B.m 0) h) fun v h=>Am (Ag TT disp K d false 227 [v,I z,I off] h) k) Q:=by
 obtain⟨lt,D,p,bl,ql,np,U,W,G,a⟩:=C.M.s;rw[Mq a.Hf,Ap];refine Ok.Am (Ayx (K:=K) A (d:=d) (by omega) (fun k t=>A1w A (by omega) X.S.dr k t) a.drv C.hb z off) ?_;rintro _ h' ⟨rfl,hlen,d2,c2,u⟩;have x:U8 (X.S.dr.read z off).2.1:=by
  obtain⟨V,H,qc,qh,cs,hs,ms,F',J⟩:=d2.Mn;have w:=J.dev.wf;have O:∀i,i<(X.S.dr.begin z).dv.n->((X.S.dr.begin z).dv.zs i).Wf (X.S.dr.begin z).dv.size:=by
   have e1:(X.S.dr.read z off).1.dv=(X.S.dr.begin z).dv.begin z:=rfl;rw[e1]at w;unfold Dv.begin at w;split at w
   ·exact w.zs
   ·exact w.zs
  show U8 (Dv.read _ z off).1;unfold Dv.read;split
  ·exact U8.zs
  ·rename_i E
   obtain⟨j,rfl,hj⟩:=Dv.A16 (show(X.S.dr.begin z).dv.Et z=0 by
    rcases Decidable.em ((X.S.dr.begin z).dv.Et z=0)with y|y
    ·exact y
    ·exact absurd y E)
   unfold Afm;split
   ·exact U8.zs
   ·split
    ·rename_i P
     have:off.toNat<((X.S.dr.begin (j:Int)).dv.zs j).l.length:=by
      have:=P.2;rw[bG]at this;omega
     rw[bG,aH this];exact(O j hj).u8 _ (av _)
    ·exact U8.zs
 obtain⟨H,T⟩:=C.M.drv C.hb a d2 c2;exact t _ _ h' _ hlen x (C.Hf H T u (Aya (Be4 X.S.dr z off))) (A5i · z off)
theorem Bkj(C:Cu h B X F)(z:Int):∃(n:Nat) (D V:Nat),n<=64/\Bj K (.ptr B.m 0) h=some (.ptr D 0,h)/\Db K (.ptr D 0) h=some (.ptr V 0,h)/\Qe K (.ptr V 0) (I z) h=some (I n,h):=by
 obtain⟨lt,D,p,bl,ql,np,x,y,G,a⟩:=C.M.s;obtain⟨V,E,qc,qh,cs,hs,ms,F',j⟩:=a.drv.Mn;have w:=j.dev.wf;have t:(if X.S.dr.dv.has z=true then(X.S.dr.dv.zs z.toNat).l.length else 0)<=64:=by
  split
  ·rename_i u
   have:=cO u;have:=(w.zs z.toNat (by omega)).len;have:=w.size;omega
  ·omega
 refine⟨_,D,V,t,Mq a.Hf,Ajo j,?_⟩;rw[Bcd j.dev];split<;>rfl
section
def Azq(L:List (List EV)):Prop:=A04 L/\L.length<=64
def Buy(h:Ab)(B:Cb)(X:Co)(F:Nat->Prop):EV->Ab->Prop:=fun v h'=>∃(a:EV) (ok:Bool) (e:Int) (Y:Co) (j:Nat) (L:List (List EV)),v=.tuple [a,.bool ok,I e]/\Ex h h' B X F Y/\(¬e=0\/ok=false\/(Cc h' a j 30 64 L.length L.flatten/\Azq L))/\(X.S.dr.dv.down=true->Y.S.dr.dv.down=true/\(e=34\/e=0/\L = []))
section
variable (A:Bw disp)(hK:10000<K)
include A hK
theorem Bjl(hd:19<=d){z:Int}(rz:Qu z)(hn:n<=64)(G:∀j,F j->j<h.next):∀(f i:Nat) (E:Ab) (Y:Co) (s:EV) (q:Nat) (L:List (List EV)),n-i<f->i<=n->L.length=i->Ex h E B X F Y->Cu E B Y (fun j=>F j\/(0<L.length/\j=q))->(0<L.length->h.next<=q)->Cc E s q 30 64 L.length L.flatten->A04 L->(X.S.dr.dv.down=true->L = []/\Y.S.dr.dv.down=true) ->
 Ok (Kl (Ag TT disp K d false) (Ag TT disp K d true) K f (I z) (.ptr B.m 0) s (I n) (I i) E) (Buy h B X F):=by
 intro f;induction f with
 | zero=>intro i E Y s q L hf;omega
 | succ f ih=>
  intro i E Y s q L hf hi hL c1 C1 hq row S dn;rw[Kl];simp only[I,Ac];by_cases a5:i<n
  case neg=>
   have:decide ((i:Int)<(n:Int))=false:=by simp;omega
   simp only[this,Aa,Ad1];exact .ret ⟨s,true,0,Y,q,L,rfl,c1,.inr (.inr ⟨row,S,by omega⟩),fun y=>⟨(dn y).2,.inr ⟨rfl,(dn y).1⟩⟩⟩
  have:decide ((i:Int)<(n:Int))=true:=by simp;omega
  simp only[this,Aa,Ad9];refine A7x A hK C1 (d:=d) (by omega) z i fun l e h2 Z H hu c2 d2=>?_
  have J:Ex h h2 B X F Z:=c1.trans (c2.less fun j=>.inl);simp only[Aa];refine Ok.mk rfl H fun M x3 e3 _=>?_
  have c3:=c2.trans (c2.C.Xa x3);have t:=J.trans (J.C.Xa x3);have d34:¬e=34->∀{p:Prop},X.S.dr.dv.down=true->p:=fun k _ y=>absurd (d2 (dn y).2).1 k
  have ab:D6 (.tuple []) false=false/\D6 (.tuple []) true=false:=⟨rfl,rfl⟩;simp only[I,Ac];by_cases u:e=34
  ·rw[aJ u]
   simp only[Aa,Ch,Ow,Ka,Ks,ab];exact .ret ⟨.Al,false,34,Z,0,[],rfl,t,.inr (.inl rfl),fun y=>⟨(d2 (dn y).2).2,.inl rfl⟩⟩
  rw[aK u];simp only[Aa,Ch];by_cases D:e=32
  ·rw[aJ D]
   simp only[Aa,Ch,Ow];refine Ok.Am (A4v A hK t.C (d:=d) (by omega) rz) ?_;rintro _ h4 ⟨e4,W,rfl,c4⟩;have O:=t.trans c4;simp only[I,Ac];by_cases k4:e4=34
   ·rw[aJ k4]
    simp only[Aa,Ch,Ka,Ks];exact .ret ⟨.Al,false,34,W,0,[],rfl,O,.inr (.inl rfl),d34 u⟩
   ·rw[aK k4]
    have:¬(32:Int)=0:=by decide
    simp only[Aa,Ch,Ka,Ks,Ui,D,I,Ac,this,aF,aB];exact .ret ⟨.Al,false,0,W,0,[],rfl,O,.inr (.inl rfl),d34 u⟩
  rw[aK D];simp only[Aa,Ch,Ow,Ka,Ks,Ui,I,Ac];by_cases k0:e=0
  case neg=>
   rw[aJ k0];simp only[Aa];exact .ret ⟨.Al,false,0,Z,0,[],rfl,t,.inr (.inl rfl),d34 u⟩
  rw[aK (show ¬¬e=0 from fun y=>y k0)];simp only[Aa,Adw];rw[Cn e3 rfl (Ak H)];have P:=row.frame (h':=M) fun y=>c3.k.get _ (c1.hb _ _ (row.block y)) fun w=>w (.inr ⟨y,rfl⟩)
  have T:=t.hb;refine L0 (z:=List.replicate 64 (EV.int .u8 0)) (v:=.agg l) P T rfl (by simp) H (by omega) (by omega) fun h6 U a6 c6=>?_
  have ae:=c6.hb T;have C6:=c3.C.Bfc c6 (fun j hj H=>.inr ⟨hj.1,hj.2⟩) ae;have ll:(L++[l]).length=L.length+1:=by simp
  have af:Cu h6 B Z (fun j=>F j\/(0<(L++[l]).length/\j=M.next+1)):=C6.less fun j hj=>by
   rcases hj with hj|⟨_,rfl⟩
   ·exact .inl (.inl hj)
   ·exact .inr ⟨by omega,by omega⟩
  have ag:Kf F M h6:=c6.mono fun j hj y=>by
   have a:=G j y;have b:=hq hj.1;have e:=hj.2;omega
  have ah:Ex h h6 B X F Z:=t.trans ⟨C6.less fun j hj=>.inl (.inl hj),ag,Ck.refl _⟩;simp only[Adj,Ac];rw[Cg,show((i:Nat):Int)+1=((i+1:Nat):Int) by omega];have aq:=t.k.next
  refine ih (i+1) h6 Z (.slice (M.next+1) 0 (L.length+1) (L.length+1) true) (M.next+1) (L++[l]) (by omega) (by omega) (by omega) ah af (fun _=>by omega) ?_ (fun x V=>?_) (d34 u)
  ·rw[ll,cj,show([l]).flatten=l by simp];exact U
  ·rcases bP.1 V with V|V
   ·exact S x V
   ·rw[aP.1 V];exact⟨H,hu⟩
theorem Boz(hd:20<=d):Bnk disp K d Azq:=by
 intro h B X F q s C t g z a;obtain⟨e,rfl⟩:∃k,d=k+1:=⟨d-1,by omega⟩;rw[Apd A (by omega)];simp only[Aj5,Aa];rw[Ah g rfl rfl];simp only[Dc,Aa];rw[C.ldM]
 try simp only[Aa]
 obtain⟨n,D,V,m,e1,e2,e3⟩:=Bkj (K:=K) C z;rw[e1,Ap,e2,Ap,e3,Ap];exact Bjl A hK (d:=e) (by omega) a m (fun j hj=>C.M.lt _ (.inl hj)) K 0 h X .Al 0 [] (by omega) (by omega) rfl (Ex.refl C) (C.less fun j hj=>by rcases hj with hj|⟨y,_⟩;exact hj;exact absurd y (by simp)) (fun y=>absurd y (by simp)) (Cc.nil _ _ _ _) (fun x p=>by cases p) (fun y=>⟨rfl,y⟩)
end
end
def Bdh(disp:Nat->Option FT)(K d:Nat):Prop:=∀{h:Ab} {s:EV} {q:Nat} {L:List Fr},Cc h s q 247 49 L.length (L.map Fr.cells).flatten->(∀f∈L,f.Wf)->L.length<=64->HB h ->
 Ok (Ag TT disp K d false 267 [s] h) fun v h'=>∃(a:Int) (b c p:EV) (e:Int),v=.tuple [.agg [I a,b,c,p],I e]/\(b.plain=true/\c.plain=true/\p.plain=true)/\Ext h h'/\HB h'/\(L = []->¬e=0)
theorem Azd:TT.size 163=some 4/\TT.agg 163=some true:=⟨by kernel_rfl,by kernel_rfl⟩
theorem Bbk(A:Bw disp)(hK:10000<K)(hd:9<=d)(hs:Bdh disp K d){v3 v6 qx:Nat}{sx:EV}{X:List (List EV)}{An:Int}(hX:A04 X)(hn:X.length<=64)(l3:h0.next<=v3)(l6:h0.next<=v6)(rx:Cc h0 sx qx 30 64 X.length X.flatten)(V:HB h0):
 ∀(n i:Nat) (h:Ab) (s:EV) (q:Nat) (L:List Fr),X.length-i<n->i<=X.length->Ext h0 h->HB h->h.get v3=some (.cells Be 119)->h.get v6=some (.cells [.int .i64 0,.int .i64 0,.int .i64 0,.Bu] 163)->(∀f∈L,f.Wf)->L.length=i->Cc h s q 247 49 i (L.map Fr.cells).flatten->(0<i->h0.next<=q/\q≠v3/\q≠v6) ->
 Ok (Vc (Ag TT disp K d false) (Ag TT disp K d true) K n (I An) (.ptr v3 0) (.ptr v6 0) s sx (I X.length) (I i) h) fun v h'=>∃(a:Int) (b c p:EV) (e:Int),v=.tuple [.agg [I a,b,c,p],I e]/\Ext h0 h'/\(X = []->¬e=0):=by
 intro n;induction n with
 | zero=>intro i h s q L hn;omega
 | succ n ih=>
  intro i h s q L az hi G hb W S nL hL row Y;rw[Vc];simp only[I,Ac];have fin:∀h',Ext h0 h'->HB h'->h'.get v6=some (.cells [.int .i64 0,.int .i64 0,.int .i64 0,.Bu] 163)->Cc h' s q 247 49 i (L.map Fr.cells).flatten->Ok (Aaw (Ag TT disp K d false) (Ag TT disp K d true) K (.ptr v6 0) s h') fun v h'=>∃(a:Int) (b c p:EV) (e:Int),v=.tuple [.agg [I a,b,c,p],I e]/\Ext h0 h'/\(X = []->¬e=0):=fun h' x' H g' r'=>by
   simp only[Aaw,dr];refine Ok.Am (hs (L:=L) (by rw[hL];exact r') nL (by omega) H) ?_;rintro _ h2 ⟨a,b,c,p,e,rfl,pl,E,t,ne⟩;have J:=E.at H g';have Z:=t _ _ J;simp only[Aa];refine Ok.stW J (by simp[EV.plain,pl]) rfl ?_;rw[Ea (Ae _ _ _) Azd.1 Azd.2 rfl];exact .ret ⟨a,b,c,p,e,rfl,(x'.trans E).Ao (.inr l6) Z _,fun y=>ne (eB (by rw[y]at hi;have:i<=0:=hi;omega))⟩
  by_cases C:i<X.length
  case neg=>
   have:decide ((i:Int)<(X.length:Int))=false:=by simp;omega
   simp only[this,Aa];exact fin h G hb S row
  have e3:decide ((i:Int)<(X.length:Int))=true:=by simp;omega
  simp only[e3,Aa,Asj];have M:=rx.frame (h':=h) fun y=>G.get _ (V _ _ (rx.block y)) id
  have e1:Mj X.flatten (i*64) 64=some X[i]:=Alx (n:=64) _ _ _ (fun x T=>(hX x T).1) (aH C);have T:=hX _ (av C);have ef:=(U8.Btn T.2);have el:(Afv X[i]).length=64:=by rw[A1y];exact T.1
  rw[M.ix C,Cn (M.block (by omega)) rfl e1,<-ef.1];generalize Afv X[i]=sec at ef el⊢
  try simp only[Aa]
  refine Ok.mk (by simp) (by rw[Bg,el]) fun h2 E g2 _=>?_
  have t:=E.hb hb;rw[Cy (E.at hb W) rfl,Ak (n:=256) Pv];simp only[Aa];rw[Cn g2 rfl (Ak (by rw[Bg,el]))];have fa:=Ax8 (K:=K) el ef.2 t hK An i;generalize atF sec An i=P at fa;obtain⟨f,er⟩:=P;simp only[I]at fa;refine fa.Am ?_;rintro _ h3 ⟨rfl,U,x3⟩;have ad:=x3.hb t;simp only[Aa];refine Ok.mk (by simp) (Fr.Az U) fun h4 x4 g4 _=>?_
  have D:=x4.hb ad;have m:Ext h h4:=(E.trans x3).trans x4;have u:=row.frame (h':=h4) fun y=>m.get _ (hb _ _ (row.block y)) id
  simp only[Ac];by_cases k0:er=0
  case neg=>
   rw[aJ k0];simp only[Aa];exact fin h4 (G.trans m) D (m.at hb S) u
  rw[aK (show ¬¬er=0 from fun y=>y k0)];simp only[Aa,As7];rw[Cn g4 rfl (Ak (Fr.Az U))];refine L0 u D rfl (by simp) (Fr.Az U) (by omega) (by omega) ?_;intro h5 O n5 c5;simp only[As1,Ac];rw[Cg,show((i:Nat):Int)+1=((i+1:Nat):Int) by omega];have lv:=hb _ _ W;have bf:=hb _ _ S;have nx:=m.next
  have c:Au (fun j=>0<i/\j=q) h h5:=(Ext.to m).trans c5;refine ih (i+1) h5 _ (h4.next+1) (L++[f]) (by omega) (by omega) (G.then c fun j hj a=>?_) (c5.hb D) (c.at hb W fun y=>(Y y.1).2.1 y.2.symm) (c.at hb S fun y=>(Y y.1).2.2 y.2.symm) ?_ (by rw[aG,hL];rfl) ?_ (fun _=>⟨by have:=G.next;omega,by omega,by omega⟩)
  ·have:=(Y hj.1).1
   have:=hj.2;omega
  ·intro g hg
   rcases bP.1 hg with y|y
   ·exact nL g y
   ·rw[aP]at y;subst y;exact U
  ·rw[bm,cj,show([f].map Fr.cells).flatten=f.cells from cS _];exact O
theorem Bms(A:Bw disp)(hK:10000<K)(hd:10<=d)(hs:Bdh disp K (d-1)):A7y disp K d Azq:=by
 intro h t C X z D hb rx a;obtain⟨e,rfl⟩:∃k,d=k+1:=⟨d-1,by omega⟩;rw[A2w A (by omega)];simp only[A1n,Uh,Aa];have j:Ext h ((h.new (.cells Be 119)).new (.cells [.int .i64 0,.int .i64 0,.int .i64 0,.Bu] 163)):=(Au.new _ _).C8 _;have c1:((h.new (.cells Be 119)).new (.cells [.int .i64 0,.int .i64 0,.int .i64 0,.Bu] 163)).get h.next=some (.cells Be 119):=by rw[Ay _ (aR _)];exact Ad _ _
 have p:((h.new (.cells Be 119)).new (.cells [.int .i64 0,.int .i64 0,.int .i64 0,.Bu] 163)).get (h.next+1)=some (.cells [.int .i64 0,.int .i64 0,.int .i64 0,.Bu] 163):=Ad _ _;rw[show(h.new (.cells Be 119)).next=h.next+1 from rfl];generalize (h.new (.cells Be 119)).new (.cells [.int .i64 0,.int .i64 0,.int .i64 0,.Bu] 163)=u at j c1 p⊢;have m:=j.hb hb;have le:∀k:EV->R,Hc t k=k (I X.length):=fun k=>rx.Hc k
 rw[le];have E:=a.2;exact Bbk (K:=K) A hK (d:=e) (by omega) hs a.1 a.2 (aD h.next) (fL _) rx hb K 0 u .Al 0 [] (by omega) (by omega) j m c1 p (fun f x=>by cases x) rfl (Cc.nil _ _ _ _) (fun y=>absurd y (bS _))
theorem Brr:TT.size 53=some 6/\TT.agg 53=some true:=⟨by kernel_rfl,by kernel_rfl⟩
theorem Bt7 {l:List Nat}(j:∀b∈l,b<256):Qs (l.take 2)<65536:=by
 have a:=A69 (l.take 2) fun b hb=>j b (bO hb)
 have c:(l.take 2).length<=2:=by rw[bH];omega
 have e:256^(l.take 2).length<=256^2:=eO (by decide) c;omega
theorem A6z(hK:10000<K){R:Nat}{l:List Nat}(d:Rd h R q off l)(hb:HB h)(hn:16<=l.length)(hl:∀b∈l,b<256):
 Ok (Arr K (.ptr R 0) h) fun v h'=>∃x:Me,v=.agg x.cells/\(Qu x.An/\Qu x.Bt)/\Rd h' R q (off+16) (l.drop 16)/\Au (fun i=>i=R) h h'/\HB h':=by
 have lR:R<h.next:=by obtain⟨s,g,_⟩:=d.Mn;exact hb _ _ g
 simp only[Arr,Aa];obtain⟨h1,e_,x1,g1,n1⟩:=nW h (.cells [EV.int .i64 0,.int .i64 0,.int .i64 0,.int .i64 0,.int .i64 0,.int .i64 0] 53);rw[e_];have u:=x1.hb hb;refine(K2 (K:=K) (d.ext hb x1) u (by omega) (w:=1) (by omega) (by omega) (by omega) hl).Am ?_;rintro _ h2 ⟨rfl,d2,c2,J⟩;generalize Qs (l.take 1)=a1;have b8:=c2.at u g1 (by show ¬_=R;omega);have t2:=c2.next
 rw[Aw (l:=[Nk .i64 a1,I 0,I 0,I 0,I 0,I 0]) rfl];refine Ok.mk rfl rfl fun h3 x3 g3 _=>?_
 have M:=x3.hb J;have a:∀k,∀b∈l.drop k,b<256:=fun k b hb=>hl b (aE hb)
 refine(K2 (K:=K) (d2.ext J x3) M (by omega) (w:=2) (by omega) (by omega) (by rw[aU];omega) (a 1)).Am ?_;rintro _ h4 ⟨rfl,d4,c4,O⟩;have b2:=Bt7 (a 1);generalize Qs ((l.drop 1).take 2)=a2 at b2⊢;rw[cD]at d4;refine(K2 (K:=K) d4 O (by omega) (w:=2) (by omega) (by omega) (by rw[aU];omega) (a _)).Am ?_;rintro _ h5 ⟨rfl,d5,c5,P⟩;have b3:=Bt7 (a (1+2));generalize Qs ((l.drop (1+2)).take 2)=a3 at b3⊢;rw[cD]at d5;refine(K2 (K:=K) d5 P (by omega) (w:=1) (by omega) (by omega) (by rw[aU];omega) (a _)).Am ?_;rintro _ h6 ⟨rfl,d6,c6,T⟩;rw[cD]at d6;generalize Qs _=a4;have qR:=d.ne;have U:=c6.at P (c5.at O (c4.at M g3 (by show ¬_=R;omega)) (by show ¬_=R;omega)) (by show ¬_=R;omega);have ai:Au (fun i=>i=R) h1 h6:=(((c2.trans (Ext.to x3)).trans c4).trans c5).trans c6;have w6:=T _ _ U;have put:∀{y:Ab} {p:Nat} {lx:List Nat} (o:By),HB y->h2.next<y.next->Au (fun i=>i=R) h1 y->Rd y R q p lx->HB (y.put h2.next o)/\Au (fun i=>i=R) h1 (y.put h2.next o)/\Rd (y.put h2.next o) R q p lx:=fun o b w c d=>by
  have t:=c.next
  refine⟨b.put w _,c.Ao (.inr (by omega)) w _,d.chg b (S:=fun i=>i=h2.next) (Au.Ao (S:=fun i=>i=h2.next) (Au.refl _) (.inl rfl) w _) (by show ¬_=_;omega) (by show ¬_=_;omega)⟩
 refine Ok.st [Nk .i64 a1,Nk .i64 a2,I 0,I 0,I 0,I 0] U rfl rfl rfl ?_;obtain⟨C,V,d7⟩:=put (.cells [Nk .i64 a1,Nk .i64 a2,I 0,I 0,I 0,I 0] 53) T w6 ai d6;have g7:(h6.put h2.next (.cells [Nk .i64 a1,Nk .i64 a2,I 0,I 0,I 0,I 0] 53)).get h2.next=_:=Ae _ _ _
 generalize h6.put h2.next (.cells [Nk .i64 a1,Nk .i64 a2,I 0,I 0,I 0,I 0] 53)=h7 at C V d7 g7⊢
 refine Ok.st [Nk .i64 a1,Nk .i64 a2,Nk .i64 a3,I 0,I 0,I 0] g7 rfl rfl rfl ?_;obtain⟨D,W,d8⟩:=put (.cells [Nk .i64 a1,Nk .i64 a2,Nk .i64 a3,I 0,I 0,I 0] 53) C (C _ _ g7) V d7;have g8:(h7.put h2.next (.cells [Nk .i64 a1,Nk .i64 a2,Nk .i64 a3,I 0,I 0,I 0] 53)).get h2.next=_:=Ae _ _ _
 generalize h7.put h2.next (.cells [Nk .i64 a1,Nk .i64 a2,Nk .i64 a3,I 0,I 0,I 0] 53)=h8 at D W d8 g8⊢
 refine Ok.st [Nk .i64 a1,Nk .i64 a2,Nk .i64 a3,Nk .i64 a4,I 0,I 0] g8 rfl rfl rfl ?_;obtain⟨E,Y,d9⟩:=put (.cells [Nk .i64 a1,Nk .i64 a2,Nk .i64 a3,Nk .i64 a4,I 0,I 0] 53) D (D _ _ g8) W d8;have g9:(h8.put h2.next (.cells [Nk .i64 a1,Nk .i64 a2,Nk .i64 a3,Nk .i64 a4,I 0,I 0] 53)).get h2.next=_:=Ae _ _ _
 generalize h8.put h2.next (.cells [Nk .i64 a1,Nk .i64 a2,Nk .i64 a3,Nk .i64 a4,I 0,I 0] 53)=h9 at E Y d9 g9⊢
 refine(K2 (K:=K) d9 E (by omega) (w:=6) (by omega) (by omega) (by rw[aU];omega) (a _)).Am ?_;rintro _ hA ⟨rfl,dA,cA,Z⟩;rw[cD]at dA;generalize Qs _=j;refine(K2 (K:=K) dA Z (by omega) (w:=4) (by omega) (by omega) (by rw[aU];omega) (a _)).Am ?_;rintro _ hB ⟨rfl,dB,cB,aa⟩;rw[cD]at dB;generalize Qs _=a6;have gB:=cB.at Z (cA.at E g9 (by show ¬_=R;omega)) (by show ¬_=R;omega);have ao:=(Y.trans cA).trans cB;refine Ok.st [Nk .i64 a1,Nk .i64 a2,Nk .i64 a3,Nk .i64 a4,Nk .i64 j,I 0] gB rfl rfl rfl ?_;obtain⟨G,ad,dC⟩:=put (.cells [Nk .i64 a1,Nk .i64 a2,Nk .i64 a3,Nk .i64 a4,Nk .i64 j,I 0] 53) aa (aa _ _ gB) ao dB;have gC:(hB.put h2.next (.cells [Nk .i64 a1,Nk .i64 a2,Nk .i64 a3,Nk .i64 a4,Nk .i64 j,I 0] 53)).get h2.next=_:=Ae _ _ _
 generalize hB.put h2.next (.cells [Nk .i64 a1,Nk .i64 a2,Nk .i64 a3,Nk .i64 a4,Nk .i64 j,I 0] 53)=hC at G ad dC gC⊢
 refine Ok.st [Nk .i64 a1,Nk .i64 a2,Nk .i64 a3,Nk .i64 a4,Nk .i64 j,Nk .i64 a6] gC rfl rfl rfl ?_;obtain⟨m,H,dD⟩:=put (.cells [Nk .i64 a1,Nk .i64 a2,Nk .i64 a3,Nk .i64 a4,Nk .i64 j,Nk .i64 a6] 53) G (G _ _ gC) ad dC;have gD:(hC.put h2.next (.cells [Nk .i64 a1,Nk .i64 a2,Nk .i64 a3,Nk .i64 a4,Nk .i64 j,Nk .i64 a6] 53)).get h2.next=_:=Ae _ _ _
 generalize hC.put h2.next (.cells [Nk .i64 a1,Nk .i64 a2,Nk .i64 a3,Nk .i64 a4,Nk .i64 j,Nk .i64 a6] 53)=hD at m H dD gD⊢
 rw[Cn gD rfl (Ak (n:=6) rfl)];have gv:=H.at u g1 (by show ¬_=R;omega);have lv:=m _ _ gv;refine Ok.stW gv rfl rfl ?_;rw[Qo (Ae _ _ _) Brr.1 Brr.2 rfl];refine .ret ⟨⟨a1,a2,a3,a4,j,a6⟩,rfl,⟨⟨by show _<=(a2:Int);omega,by show(a2:Int)<=_;omega⟩,by show _<=(a3:Int);omega,by show(a3:Int)<=_;omega⟩,?_,?_,m.put lv _⟩
 ·have e:off+1+2+2+1+6+4=off+16:=by omega
  rw[<-e];exact dD.chg m (S:=fun i=>i=h.next) (Au.Ao (S:=fun i=>i=h.next) (Au.refl _) (.inl rfl) lv _) (by show ¬_=_;omega) (by show ¬_=_;omega)
 ·exact((Ext.to x1:Au (fun i=>i=R) h h1).trans H).Ao (.inr (aD _)) lv _
theorem Rd.Brw{R:Nat}{l:List Nat}(d:Rd h R q off l):Rd h.lift R q off l:=by
 obtain⟨s,g,e,f⟩:=d.Mn;exact⟨⟨s,by rw[Br];exact g,e,fun y=>⟨(f y).1,(f y).2.lift⟩⟩,d.ne⟩
theorem Rd.Brn {h':Ab}{R:Nat}{l:List Nat}(d:Rd h R q off l)(sm:Ag9 h h'):Rd h' R q off l:=by
 obtain⟨s,g,e,f⟩:=d.Mn;exact⟨⟨s,by rw[sm.get];exact g,e,fun y=>⟨(f y).1,(f y).2.frame (sm.get _)⟩⟩,d.ne⟩
theorem Btz {k:Nat}{l:List Nat}(h:16*(2-k)<=l.length)(a:k<2):16*(2-(k+1))<=(l.drop 16).length:=by rw[aU];omega
theorem Beq(hK:10000<K)(sm:Sm g){R v3 ll N:Nat}{x y z:EV}(w:f.Wf)(fo : -4294967296<=f.off/\f.off<=4294967296)(nR:N<=R)(nl:b≠R/\ml≠R/\ll≠R/\v2≠R/\v3<R/\v2≠ml/\v2≠ll/\v3≠ml/\v3≠ll/\q≠ml/\q≠ll):
 ∀(n k off:Nat) (h:Ab) (es:List Me) (l:List Nat),2-k<n->k<=2->HB h->N<=h.next->Lj h b ml ll g es->h.get v2=some (.cells [x,y,z,.ptr b 0] 163)->h.get v3=some (.cells f.cells 247)->Rd h R q off l->16*(2-k)<=l.length->(∀b∈l,b<256) ->
 Ok (Yc K n (.ptr v2 0) (.ptr v3 0) (.ptr R 0) (I k) h) fun v h'=>∃(e:Int) (u:List Me),v=I e/\Lj h' b ml ll g u/\Au (fun i=>i=R\/i=ml\/i=ll) h h'/\HB h':=by
 intro n;induction n with
 | zero=>intro k off h es l hn;omega
 | succ n ih=>
  intro k off h es l hn hk hb hN m g2 g3 d hl hu;rw[Yc];simp only[I,Ac];by_cases H:k<2
  case neg=>
   have:decide ((k:Int)<2)=false:=by simp;omega
   simp only[this,Aa,Ae5];exact .ret ⟨0,es,rfl,m,Au.refl _,hb⟩
  have n7:2-(k+1)<n:=by omega
  have:decide ((k:Int)<2)=true:=by simp;omega
  simp only[this,Aa,Au9,Ar];refine Ok.bC (S:=fun i=>i=R) (A6z (K:=K) hK d.Brw (Da hb) (by omega) hu) (fun _ _ p=>by obtain⟨_,_,_,_,c,_⟩:=p;exact c) ?_;rintro _ J h2 s' ⟨e,rfl,rg,d1,c1,Y⟩ M G O;have lR:R<h.next:=by obtain⟨s,g,_⟩:=d.Mn;exact hb _ _ g
  have mw:R<=J.mw:=c1.mw R (Nat.le_of_lt lR) (Nat.le_of_lt lR) fun i hi=>by subst hi;exact aD _
  have Z:=nl.2.2.2.2.1;have a:=M.hb Y;have d2:Rd h2 R q (off+16) (l.drop 16):=d1.Brn M;have l3:=hb _ _ g3;have C:=G.at hb g2 nl.2.2.2.1;have D:=G.at hb g3 (Nat.ne_of_lt Z);have m2:=m.frame (G.get _ (hb _ _ m.map) nl.1) (G.get _ (hb _ _ m.row) nl.2.1) (G.get _ (hb _ _ m.live) nl.2.2.1);rw[Ce l3 (by
   rcases O with rfl|⟨w,rfl,rfl⟩
   ·kernel_rfl
   ·show Ax (Nat.ble (Nat.succ v3) J.mw) true false=true
    rw[aO (by omega)];rfl),Ah D rfl (v:=I f.off) rfl]
  simp only[I,Ac];have w1:Cx .i64 (f.off-1)=f.off-1:=Cg;have w2:Cx .i64 (2*(f.off-1))=2*(f.off-1):=Cg;have w3:Cx .i64 (2*(f.off-1)+(k:Int))=2*(f.off-1)+(k:Int):=Cg;rw[w1,w2,w3]
  try simp only[Aa,Ar]
  have hq:Nat.beq h2.next v3=false:=by
   cases hx:Nat.beq h2.next v3 with
   | false=>rfl
   | true=>have:=aL hx;have:=a _ _ D;omega
  have aa:A4g 259 h2.next ⟨s'.bg,(Nat.shiftLeft 1 8,h2.next)::s'.nw,(Nat.shiftLeft 1 3,v3)::s'.Cz,s'.lou,s'.st⟩=true:=by
   have e:A4g 259 h2.next ⟨s'.bg,(Nat.shiftLeft 1 8,h2.next)::s'.nw,(Nat.shiftLeft 1 3,v3)::s'.Cz,s'.lou,s'.st⟩=Ax (Ax (Ax (Nat.beq h2.next v3) false true) true false) true false:=by
    rcases O with rfl|⟨w,rfl,rfl⟩<;>kernel_rfl
   rw[e,hq];rfl
  rw[Gh aa];refine Ok.mk rfl rfl fun h3 V g7 _=>?_
  have T:=V.hb a;rw[Ah (V.at a C) rfl (v:=.ptr b 0) rfl];have m3:=m2.ext fun i o p=>V.at a p
  refine(Ih (K:=K) m3 T).Am ?_;rintro _ h4 ⟨rfl,x4,t⟩;have j:Ext h2 h4:=V.trans x4;have c4:Au (fun i=>i=R\/i=ml\/i=ll) h h4:=(Au.mono G fun i y=>.inl y).trans (Ext.to j);have m4:=m2.ext fun i o p=>j.at a p
  simp only[gV,gL,Aa,I,Ac];by_cases hB:g.B<=2*(f.off-1)+k
  ·rw[aJ (show 2*(f.off-1)+(k:Int)≥g.B from hB)]
   simp only[Aa,Ae5];exact .ret ⟨0,es,rfl,m4,c4,t⟩
  rw[aK (show ¬2*(f.off-1)+(k:Int)≥g.B from hB)];simp only[Aa,Awj];rw[Ah (j.at a C) rfl (v:=.ptr b 0) rfl,Cn (x4.at T g7) rfl (Ak (n:=6) rfl)];have rng:e.state=1->Qu e.An/\Qu e.Bt:=fun _=>rg
  refine(A1u (K:=K) sm m4 t rng _).Am ?_;rintro _ W ⟨rfl,m5,c5,U⟩;generalize Bqo g es (2*(f.off-1)+(k:Int)) e=P at m5⊢;obtain⟨u,er⟩:=P;have E:Au (fun i=>i=R\/i=ml\/i=ll) h W:=c4.trans (c5.mono fun i y=>.inr y);simp only[I,Ac];by_cases k0:er=0
  case neg=>
   rw[aJ k0];simp only[Aa];exact .ret ⟨er,u,rfl,m5,E,U⟩
  rw[aK (show ¬¬er=0 from fun y=>y k0)];simp only[Aa,Av0,Ac];rw[Cg,show((k:Nat):Int)+1=((k+1:Nat):Int) by omega];obtain⟨a1,a2,a3,a4,a5,a6,a7,a8,a9,ae,af⟩:=nl;have ag:=c5.at t (j.at a C) (fun y=>y.elim a6 a7);have ah:=c5.at t (j.at a D) (fun y=>y.elim a8 a9);have d5:Rd W R q (off+16) (l.drop 16):=(d2.ext a j).chg t c5 (fun y=>y.elim ae af) (fun y=>y.elim (fun z=>a2 z.symm) fun z=>a3 z.symm);have t6:16*(2-(k+1))<=(l.drop 16).length:=Btz hl H;have u6:∀b∈l.drop 16,b<256:=fun b hb=>hu b (aE hb)
  have n6:N<=W.next:=by have:=E.next;omega
  refine Ok.mono (ih (k+1) (off+16) W u (l.drop 16) n7 H U n6 m5 ag ah d5 t6 u6) ?_;rintro v h6 ⟨e6,ai,rfl,m6,c6,aj⟩;exact⟨e6,ai,rfl,m6,E.trans c6,aj⟩
theorem A71(hK:10000<K)(sm:Sm g){ll:Nat}{x y z:EV}(m:Lj h b ml ll g es)(hb:HB h)(w:f.Wf)(fo : -4294967296<=f.off/\f.off<=4294967296)(pl:x.plain=true/\y.plain=true/\z.plain=true):
 Ok (Akc K (.agg [x,y,z,.ptr b 0]) (.agg f.cells) h) fun v h'=>∃(e:Int) (a:List Me),v=I e/\Lj h' b ml ll g a/\Au (fun i=>i=ml\/i=ll) h h'/\HB h':=by
 have fl:=Fr.Az w;simp only[Akc,Aa];rw[show(h.new (.cells [x,y,z,.ptr b 0] 163)).next=h.next+1 from rfl];have D:Ext h ((h.new (.cells [x,y,z,.ptr b 0] 163)).new (.cells f.cells 247)):=(Au.new _ _).C8 _;have J:((h.new (.cells [x,y,z,.ptr b 0] 163)).new (.cells f.cells 247)).get h.next=some (.cells [x,y,z,.ptr b 0] 163):=by rw[Ay _ (aR _)];exact Ad _ _
 have E:((h.new (.cells [x,y,z,.ptr b 0] 163)).new (.cells f.cells 247)).get (h.next+1)=some (.cells f.cells 247):=Ad _ _;have M:((h.new (.cells [x,y,z,.ptr b 0] 163)).new (.cells f.cells 247)).next=h.next+2:=rfl
 generalize (h.new (.cells [x,y,z,.ptr b 0] 163)).new (.cells f.cells 247)=O at D J E M⊢;have t:=D.hb hb;rw[show ∀k:EV->R,Nv 44 1 (.ptr (h.next+1) 5) (some (.int .i64 1)) none none k=k (.slice (h.next+1) 6 43 43 false)from fun k=>rfl];have bl:(f.body.drop 1).length=43:=by rw[aU,w.len]
 have bs:Bs O (.slice (h.next+1) 6 43 43 false) (h.next+1) 6 (f.body.drop 1):=by
  refine⟨43,false,_,f.cells,by rw[bl],by rw[bl];omega,E,rfl,by rw[bl,fl];omega,?_⟩;show((Bk f.body).drop 1).take (f.body.drop 1).length=_;rw[bl];have e:(Bk f.body).drop 1=Bk (f.body.drop 1):=by unfold Bk;rw[List.map_drop]
  rw[e,<-bl,<-Bg (f.body.drop 1),cL]
 refine(Ae6 (K:=K) bs t (by omega) (by omega)).Am ?_;rintro _ h2 ⟨R,q,rfl,d,G,u,lq⟩;have P:=hb _ _ m.map;have S:=hb _ _ m.row;have T:=hb _ _ m.live;have W:R<h2.next:=by obtain⟨s,g,_⟩:=d.Mn;exact u _ _ g
 have Y:=d.ne;have C:Ext h h2:=D.trans G
 try simp only[Aa]
 refine(Beq hK sm (N:=h.next) w fo (by omega) ⟨by omega,by omega,by omega,by omega,by omega,by omega,by omega,by omega,by omega,by omega,by omega⟩ K 0 0 h2 es _ (by omega) (by omega) u (by omega) (m.ext fun i o p=>C.at hb p) (G.at t J) (G.at t E) d (by omega) fun b hb=>w.u8 b (aE hb)).mono ?_;rintro v Z ⟨e,a,rfl,U,c3,H⟩;refine⟨e,a,rfl,U,(Ext.to C:Au (fun i=>i=ml\/i=ll) h h2).then c3 fun j hj V=>?_,H⟩;rcases hj with rfl|hj
 ·omega
 ·exact hj
theorem Ok.Buo{s:DX}{call:Ab->R}{k:EV->Ab->DX->R}{P:EV->Ab->Prop}{S:Nat->Prop}(w0:Nat)(j:w0<=h.next)(hS:∀i,S i->w0<=i)(hb:Aby b s=true)(m:loose b s.nw = [])(D:∀w,w0<=w->Te b w s.Cz=true)(E:Ok (call h.lift) P)(he:∀v a,P v a->Au S h.lift a)
 (u:∀v a h2 s',P v a->Ag9 a h2->Au S h h2->(s'=s.big i\/∃w,s'=s.Agw i w/\w=a.mw)->Ok (k v h2 s') Q):Ok (Ev.Js i b s h call k) Q:=by
 obtain⟨v,a,e,p⟩:=E;have x:=he v a p;have G:H4 b s h=h.lift:=by unfold H4;rw[m];rfl
 have H:Ev.Js i b s h call k=L9 i b s h a fun s h=>k v h s:=by
  show Ax (Aby b s) (Ev.Am (call (H4 b s h)) fun v h'=>L9 i b s h h' fun s h=>k v h s) none=_;rw[hb,Aj,G,e];rfl
 rw[H];unfold L9;rw[m];have sm:∀w,Ag9 a ⟨a.t,a.next,w⟩:=fun w=>⟨fun i=>by rw[Ab6,Ab6],rfl⟩
 have C:∀w i,i<h.next->¬S i->(⟨a.t,a.next,w⟩:Ab).get i=h.get i:=fun w i J M=>by
  rw[(sm w).get,x.get i J M,Br]
 cases hle:Nat.ble h.next a.mw with
 | true=>
  rw[Aj];exact u v a _ _ p (sm _) ⟨C _,x.next,fun w w1 _ _=>w1,fun y=>(sm _).hb (x.hb (Da y))⟩ (.inl rfl)
 | false=>
  rw[Bc,D _ (x.mw w0 j j hS),Aj];refine u v a _ _ p (sm _) ⟨C _,x.next,fun w w1 w2 w3=>?_,fun y=>(sm _).hb (x.hb (Da y))⟩ (.inr ⟨_,rfl,rfl⟩);have:=x.mw w w2 w2 w3;show w<=Ax (Nat.ble h.mw a.mw) h.mw a.mw;rw[Bn];split<;>assumption
theorem A82(a:rtB g=false)(hb:HB h):Ok (Yd K (gV g) h) fun v h'=>v=.tuple [.Bu,I 20]/\Ext h h'/\HB h':=by
 simp only[Yd,gV,Aa];obtain⟨j,m,p,t,_⟩:=nW h (.cells (gL g) 23);rw[m];rw[Cy t rfl,Ak (n:=6) rfl]
 try simp only[Aa]
 rw[show EV.agg (gL g)=gV g from rfl];refine(Vg (K:=K) g j).Am ?_;rintro _ h2 ⟨rfl,u⟩;rw[a];simp only[Aa];have x:=p.trans u;exact .ret ⟨rfl,x,x.hb hb⟩
theorem A6g(hb:HB h):Ok (Yd K (gV g) h) fun v h'=>∃(p:EV) (e:Int),v=.tuple [p,I e]/\Ext h h'/\HB h'/\((p=.Bu/\e=20)\/∃b ml ll,p=.ptr b 0/\e=0/\rtB g=true/\Lj h' b ml ll g (List.replicate g.B.toNat (Me.nil 0))/\h.next<=b/\h.next<=ml/\h.next<=ll):=by
 cases j:rtB g with
 | false=>
  refine(A82 j hb).mono ?_;rintro v h' ⟨rfl,x,a⟩;exact⟨_,_,rfl,x,a,.inl ⟨rfl,rfl⟩⟩
 | true=>
  refine(Axa j hb).mono ?_;rintro v h' ⟨b,ml,ll,rfl,m,x,a,q⟩;exact⟨_,_,rfl,x,a,.inr ⟨b,ml,ll,rfl,rfl,rfl,m,q⟩⟩
theorem A3x(hK:10000<K)(w:f.Wf)(hb:HB h):Ok (Agk K (.agg f.cells) h) fun v h'=>Ext h h'/\HB h'/\((∃(a b c:Int),v=.tuple [.agg [I a,I b,I c,.Bu],I 20])\/∃(a b c:Int) (g:Gm) (p ml ll:Nat) (es:List Me),v=.tuple [.agg [I a,I b,I c,.ptr p 0],I 0]/\rtB g=true/\Lj h' p ml ll g es/\h.next<=p/\h.next<=ml/\h.next<=ll):=by
 have fl:=Fr.Az w;simp only[Agk,Aa];have x1:Ext h ((h.new (.cells f.cells 247)).new (.cells [.int .i64 0,.int .i64 0,.int .i64 0,.Bu] 163)):=(Au.new _ _).C8 _;have g1:((h.new (.cells f.cells 247)).new (.cells [.int .i64 0,.int .i64 0,.int .i64 0,.Bu] 163)).get h.next=some (.cells f.cells 247):=by
  rw[Ay _ (aR _)];exact Ad _ _
 have g2:((h.new (.cells f.cells 247)).new (.cells [.int .i64 0,.int .i64 0,.int .i64 0,.Bu] 163)).get (h.next+1)=some (.cells [.int .i64 0,.int .i64 0,.int .i64 0,.Bu] 163):=Ad _ _;have n1:((h.new (.cells f.cells 247)).new (.cells [.int .i64 0,.int .i64 0,.int .i64 0,.Bu] 163)).next=h.next+2:=rfl
 rw[show(h.new (.cells f.cells 247)).next=h.next+1 from rfl];generalize (h.new (.cells f.cells 247)).new (.cells [.int .i64 0,.int .i64 0,.int .i64 0,.Bu] 163)=h1 at x1 g1 g2 n1⊢;have Z:=x1.hb hb;rw[show ∀k:EV->R,Nv 44 1 (.ptr h.next 5) none none none k=k (.slice h.next 5 44 44 false)from fun k=>rfl];have ul:(Bk f.body).length=44:=by rw[Bg,w.len]
 have bs:Bs h1 (.slice h.next 5 44 44 false) h.next 5 f.body:=by
  refine⟨44,false,_,f.cells,by rw[w.len],by rw[w.len];omega,g1,rfl,by rw[w.len,fl];omega,?_⟩;show(Bk f.body).take f.body.length=_;rw[w.len,<-ul,cL]
 refine(Ae6 (K:=K) bs Z (by rw[w.len];omega) (by rw[w.len];omega)).Am ?_;rintro _ h5 ⟨M,q,rfl,d0,x5,aa,eb⟩;have ab:=x5.at Z g1;have bn:=x5.at Z g2;have al:=aa _ _ ab;have ec:h.next+1<M:=by have:=d0.ne;omega
 have bp:Ext h h5:=x1.trans x5;have hu:=w.u8;have hl:=w.len;simp only[Aa,Ar];rw[Gy al,Ah ab rfl (v:=I f.seq) rfl]
 try simp only[Aa,Ar]
 rw[Gy al,Ah ab rfl (v:=I f.As) rfl]
 try simp only[Aa,Ar]
 refine Ok.Buo (S:=fun i=>i=M) (h.next+1) (by have:=x5.next;omega) (fun i hi=>by have hi:i=M:=hi;omega) (by kernel_rfl) (by kernel_rfl) (fun _ hw=>by
  simp only[Te];rw[aO (show Nat.succ h.next<=_ from hw)];rfl) (K2 (K:=K) (w:=6) d0.Brw (Da aa) (by omega) (by decide) (by decide) (by omega) hu) (fun _ _ p=>p.2.2.1) ?_
 rintro _ ed h6 s' ⟨rfl,bt,_,au⟩ sm c6 bu;have P:=sm.hb au;have d1:=bt.Brn sm;have x6:Ext h h6:=bp.then c6 fun j hj bx=>by
  have hj:j=M:=hj;omega
 have bz:=c6.at aa bn (by show ¬h.next+1=M;omega);have up:∀{u hc:Ab},Ext h u->Au (fun i=>i=M) u hc->Ext h hc:=fun x c=>x.then c fun j hj bx=>by
  have hj:j=M:=hj;omega
 have t:∀{u hc:Ab} {i:Nat} {o:By},Au (fun i=>i=M) u hc->HB u->u.get i=some o->i≠M->hc.get i=some o:=fun c hb g hi=>c.at hb g hi
 have lR:M<h6.next:=by obtain⟨_,g,_⟩:=d1.Mn;exact P _ _ g
 rw[Aw (l:=[I f.seq,I f.As,Nk .i64 (Qs (f.body.take 6)),.Bu]) rfl]
 try simp only[Aa,Ar]
 rw[Gh (by rcases bu with rfl|⟨w,rfl,_⟩<;>kernel_rfl)];refine Ok.mk rfl rfl fun h7 x7 b5 n7=>?_
 have ad:=x7.hb P;have d17:=d1.ext P x7;have b6:=x7.at P bz;have b7:Ext h h7:=x6.trans x7;have H:∀b∈f.body.drop 6,b<256:=fun b hb=>hu b (aE hb)
 refine(K2 (K:=K) (w:=1) d17 ad (by omega) (by decide) (by decide) (by simp only[aU];omega) H).Am ?_;rintro _ h8 ⟨rfl,d2,c8,ae⟩;have cb:=t c8 ad b6 (by omega);have cf:=t c8 ad b5 (by omega);have x8:=up b7 c8;refine(K2 (K:=K) (w:=1) d2 ae (by omega) (by decide) (by decide) (by simp only[aU];omega) (fun b hb=>H b (aE hb))).Am ?_;rintro _ h9 ⟨rfl,d3,c9,af⟩;have cl:=t c9 ae cb (by omega);have cw:=t c9 ae cf (by omega);have x9:=up x8 c9;refine(K2 (K:=K) (w:=1) d3 af (by omega) (by decide) (by decide) (by simp only[aU];omega) (fun b hb=>H b (aE (aE hb)))).Am ?_;rintro _ u ⟨rfl,d4,ca,J⟩;have cA:=t ca af cl (by omega);have aw:=t ca af cw (by omega);have xa:=up x9 ca;generalize Qs ((f.body.drop 6).take 1)=y;generalize Qs (((f.body.drop 6).drop 1).take 1)=C;generalize Qs ((((f.body.drop 6).drop 1).drop 1).take 1)=D;rw[Aw (l:=[Nk .i64 y,Nk .i64 C,Nk .i64 D,.int .i64 0,.int .i64 0,.int .i64 0]) rfl]
 try simp only[Aa]
 refine Ok.mk rfl rfl fun hB xb cB _=>?_
 have T:=xb.hb J;have ej:=J _ _ aw;have ek:M<u.next:=by obtain⟨_,g,_⟩:=d4.Mn;exact J _ _ g
 have cG:=xb.at J cA;have c0:=xb.at J aw;have c7:=d4.ext J xb;have da:Ext h hB:=xa.trans xb;refine(K2 (K:=K) (w:=2) c7 T (by omega) (by decide) (by decide) (by simp only[aU];omega) (fun b hb=>H b (aE (aE (aE hb))))).Am ?_;rintro _ hc ⟨rfl,d5,cc,U⟩;have db:=t cc T cG (by omega);have dc:=t cc T c0 (by omega);have df:=t cc T cB (by omega);have xc:=up da cc;refine(K2 (K:=K) (w:=1) d5 U (by omega) (by decide) (by decide) (by simp only[aU];omega) (fun b hb=>H b (aE (aE (aE (aE hb)))))).Am ?_;rintro _ hd ⟨rfl,d6,cd,V⟩;have dg:=t cd U db (by omega);have di:=t cd U dc (by omega);have dj:=t cd U df (by omega);have xd:=up xc cd;refine(K2 (K:=K) (w:=1) d6 V (by omega) (by decide) (by decide) (by simp only[aU];omega) (fun b hb=>H b (aE (aE (aE (aE (aE hb))))))).Am ?_;rintro _ he ⟨rfl,d7,ce,dm⟩;have dt:=t ce V dg (by omega);have du:=t ce V di (by omega);have ay:=t ce V dj (by omega);have xe:=up xd ce;generalize Qs (((((f.body.drop 6).drop 1).drop 1).drop 1).take 2)=E;generalize Qs ((((((f.body.drop 6).drop 1).drop 1).drop 1).drop 2).take 1)=O;generalize Qs (((((((f.body.drop 6).drop 1).drop 1).drop 1).drop 2).drop 1).take 1)=vO;have l6:=dm _ _ ay
 try simp only[Aa]
 refine Ok.st1 ay rfl rfl (by show 3<6;decide) ?_
 try simp only[Aa]
 refine Ok.st1 (Ae _ _ _) rfl rfl (by show 4<6;decide) ?_
 try simp only[Aa]
 refine Ok.st1 (Ae _ _ _) rfl rfl (by show 5<6;decide) ?_;have xf:Ext h (((he.put u.next (.cells ([Nk .i64 y,Nk .i64 C,Nk .i64 D,.int .i64 0,.int .i64 0,.int .i64 0].set 3 (Nk .i64 E)) 23)).put u.next (.cells (([Nk .i64 y,Nk .i64 C,Nk .i64 D,.int .i64 0,.int .i64 0,.int .i64 0].set 3 (Nk .i64 E)).set 4 (Nk .i64 O)) 23)).put u.next (.cells ((([Nk .i64 y,Nk .i64 C,Nk .i64 D,.int .i64 0,.int .i64 0,.int .i64 0].set 3 (Nk .i64 E)).set 4 (Nk .i64 O)).set 5 (Nk .i64 vO)) 23)):=((xe.Ao (.inr (by have:=xa.next;omega)) l6 _).Ao (.inr (by have:=xa.next;omega)) l6 _).Ao (.inr (by have:=xa.next;omega)) l6 _;have az:(((he.put u.next (.cells ([Nk .i64 y,Nk .i64 C,Nk .i64 D,.int .i64 0,.int .i64 0,.int .i64 0].set 3 (Nk .i64 E)) 23)).put u.next (.cells (([Nk .i64 y,Nk .i64 C,Nk .i64 D,.int .i64 0,.int .i64 0,.int .i64 0].set 3 (Nk .i64 E)).set 4 (Nk .i64 O)) 23)).put u.next (.cells ((([Nk .i64 y,Nk .i64 C,Nk .i64 D,.int .i64 0,.int .i64 0,.int .i64 0].set 3 (Nk .i64 E)).set 4 (Nk .i64 O)).set 5 (Nk .i64 vO)) 23)).get u.next=some (.cells (gL ⟨y,C,D,E,O,vO⟩) 23):=Ae _ _ _
 have W:(((he.put u.next (.cells ([Nk .i64 y,Nk .i64 C,Nk .i64 D,.int .i64 0,.int .i64 0,.int .i64 0].set 3 (Nk .i64 E)) 23)).put u.next (.cells (([Nk .i64 y,Nk .i64 C,Nk .i64 D,.int .i64 0,.int .i64 0,.int .i64 0].set 3 (Nk .i64 E)).set 4 (Nk .i64 O)) 23)).put u.next (.cells ((([Nk .i64 y,Nk .i64 C,Nk .i64 D,.int .i64 0,.int .i64 0,.int .i64 0].set 3 (Nk .i64 E)).set 4 (Nk .i64 O)).set 5 (Nk .i64 vO)) 23)).get (h.next+1)=some (.cells [.int .i64 0,.int .i64 0,.int .i64 0,.Bu] 163):=by
  rw[Af _,Af _,Af _];exact dt
 have Y:(((he.put u.next (.cells ([Nk .i64 y,Nk .i64 C,Nk .i64 D,.int .i64 0,.int .i64 0,.int .i64 0].set 3 (Nk .i64 E)) 23)).put u.next (.cells (([Nk .i64 y,Nk .i64 C,Nk .i64 D,.int .i64 0,.int .i64 0,.int .i64 0].set 3 (Nk .i64 E)).set 4 (Nk .i64 O)) 23)).put u.next (.cells ((([Nk .i64 y,Nk .i64 C,Nk .i64 D,.int .i64 0,.int .i64 0,.int .i64 0].set 3 (Nk .i64 E)).set 4 (Nk .i64 O)).set 5 (Nk .i64 vO)) 23)).get h6.next=some (.cells [I f.seq,I f.As,Nk .i64 (Qs (f.body.take 6)),.Bu] 163):=by
  rw[Af _,Af _,Af _];exact du
 generalize ((he.put u.next (.cells ([Nk .i64 y,Nk .i64 C,Nk .i64 D,.int .i64 0,.int .i64 0,.int .i64 0].set 3 (Nk .i64 E)) 23)).put u.next (.cells (([Nk .i64 y,Nk .i64 C,Nk .i64 D,.int .i64 0,.int .i64 0,.int .i64 0].set 3 (Nk .i64 E)).set 4 (Nk .i64 O)) 23)).put u.next (.cells ((([Nk .i64 y,Nk .i64 C,Nk .i64 D,.int .i64 0,.int .i64 0,.int .i64 0].set 3 (Nk .i64 E)).set 4 (Nk .i64 O)).set 5 (Nk .i64 vO)) 23)=hf at xf az W Y⊢
 have G:=xf.hb hb;rw[Cy az rfl,Ak (n:=6) rfl];simp only[Aa];refine(A6g (K:=K) G).Am ?_;rintro _ hg ⟨p,e,rfl,xg,ag,hp⟩;have l5:=ag _ _ (xg.at G Y);have l2:=ag _ _ (xg.at G W);have lf:=xf.next
 have pp:p.plain=true/\p.cells = [p]:=by rcases hp with⟨rfl,_⟩|⟨b,_,_,rfl,_⟩<;>exact⟨rfl,rfl⟩
 try simp only[Aa]
 refine Ok.st1 (xg.at G Y) pp.1 pp.2 (by show 3<4;decide) ?_;rw[Cy (Ae _ _ _) rfl,Ak (n:=4) rfl];simp only[Aa];refine Ok.stW (by rw[Af _];exact xg.at G W) (by simp[EV.plain,pp.1]) rfl ?_;rw[Ea (Ae _ _ _) Azd.1 Azd.2 rfl];refine .ret ⟨((xf.trans xg).Ao (.inr (by have:=x6.next;omega)) l5 _).Ao (.inr (fL _)) l2 _,(ag.put l5 _).put l2 _,?_⟩;rcases hp with⟨rfl,rfl⟩|⟨b,ml,ll,rfl,rfl,hr,m,m1,m2,m3⟩
 ·exact .inl ⟨_,_,_,rfl⟩
 ·have n6:=x6.next
  have lx:=xg.next
  have q5:=G _ _ Y;have q2:=G _ _ W;have go:∀i,hf.next<=i->((hg.put h6.next (.cells ([I f.seq,I f.As,Nk .i64 (Qs (f.body.take 6)),.Bu].set 3 (.ptr b 0)) 163)).put (h.next+1) (.cells ([I f.seq,I f.As,Nk .i64 (Qs (f.body.take 6)),.Bu].set 3 (.ptr b 0)) 163)).get i=hg.get i:=fun i hi=>by
   rw[Af _ (show h.next+1≠i by omega),Af _ (show h6.next≠i by omega)]
  refine .inr ⟨_,_,_,_,b,ml,ll,_,rfl,hr,m.frame (go b (by omega)) (go ml (by omega)) (go ll (by omega)),by omega,by omega,by omega⟩
theorem A2d:∀l l':List (IntKind × Int),l.map Prod.fst=l'.map Prod.fst->∃b,Ey (l.map fun p=>.int p.1 p.2) (l'.map fun p=>.int p.1 p.2)=some b
 | [],[],_=>⟨true,rfl⟩
 | [],_::_,e=>by cases e
 | _::_,[],e=>by cases e
 | (k,a)::l,(m,j)::l',e=>by
  rw[cR,cR]at e;injection e with e1 e2;obtain⟨b,hb⟩:=A2d l l' e2;have e1:k=m:=e1;subst e1;rw[cR,cR];unfold Ey;rw[hb];have:Agv (.int k a) (.int k j)=some (eqB a j):=by
   show Ax (Nat.beq (O2 k) (O2 k)) (some (eqB a j)) none=_;rw[cI,Aj]
  show ∃t,(match Agv (.int k a) (.int k j)with|some true=>some b|some false=>(match some b with|some _=>some false|none=>none)|none=>none)=some t;rw[this];cases eqB a j with
  | true=>exact⟨b,rfl⟩
  | false=>exact⟨false,rfl⟩
def Fr.row(f:Fr):List (IntKind × Int):=[(.i64,f.kind),(.i64,f.An),(.i64,f.off),(.i64,f.As),(.i64,f.seq)]++f.body.map fun b=>(.u8,Int.ofNat b)
theorem Fr.A5f(f:Fr):f.cells=f.row.map fun p=>.int p.1 p.2:=by
 unfold Fr.row Fr.cells Bk;rw[bm,List.map_map];rfl
theorem A5b:∀l:List Nat,shaped (List.replicate l.length 0) (Bk l)=true
 | []=>rfl
 | a::l=>by
  show Ax (Nat.beq 0 0) (shaped (List.replicate l.length 0) (Bk l)) false=true;rw[A5b l];rfl
theorem Bs1 {g:Fr}(wf:f.Wf)(a:g.Wf):∃b,∀k:EV->R,Ko Aoa (bin TT .neq 247) (.agg f.cells) (.agg g.cells) k=k (.bool b):=by
 have e:∀l:List Nat,(l.map fun b=>((IntKind.u8,Int.ofNat b):IntKind × Int)).map Prod.fst=List.replicate l.length .u8:=fun l=>by rw[List.map_map];exact List.map_const' ..
 obtain⟨b,hb⟩:=A2d f.row g.row (by unfold Fr.row;rw[bm,bm,e,e,wf.len,a.len];rfl);have he:TT.eqs 247=some (List.replicate 49 0):=by kernel_rfl
 have j:At4 TT 247 (.agg f.cells) (.agg g.cells)=some b:=by
  show(match TT.eqs 247 with|some sh=>Ax (shaped sh f.cells) (Ey f.cells g.cells) none|none=>none)=_;rw[he];simp only;have s:shaped (List.replicate 49 0) f.cells=true:=by
   have:=A5b f.body;rw[wf.len]at this;exact this
  rw[s,Aj,f.A5f,g.A5f,hb]
 refine⟨Ax b false true,fun k=>?_⟩;show oB k (match At4 TT 247 (.agg f.cells) (.agg g.cells)with|some b=>some (EV.bool (Ax b false true))|none=>none)=_;rw[j];rfl
theorem Bcm(H:Bw disp)(hd:7<=d)(hK:1000<K){ll:Nat}(G:rtB g=true)(m:Lj h b ml ll g es)(hb:HB h)(x y z j:Int):
 Ok (Ag TT disp K d false 296 [.agg [I x,I y,I z,.ptr b 0],I j] h) fun w h'=>∃(v:EV) (e:Int),w=.tuple [v,I e]/\Ext h h'/\HB h'/\(e=0->∃q L,An6 h' v q 247 49 L.length (L.map Fr.cells).flatten/\(L.length:Int)=g.parts/\Biw L/\h.next<=q):=by
 by_cases C:snR x y z es=true/\0<=j/\j<g.D*g.Z
 ·refine(A4c H hd hK G m hb C.1 C.2.1 C.2.2).mono ?_
  rintro _ h' ⟨v,q,L,rfl,r,lq,p,i,S,J⟩;exact⟨v,0,rfl,S,J,fun _=>⟨q,L,r,p,i,lq⟩⟩
 have s:=Ul G;obtain⟨e,rfl⟩:∃k,d=k+1:=⟨d-1,by omega⟩;rw[Ano H (by omega)];simp only[Apm,Aa];obtain⟨h1,T,w1,M,_⟩:=nW h (.cells [I x,I y,I z,.ptr b 0] 163);rw[T];have a:=w1.hb hb;have O:=m.ext fun i o q=>w1.at hb q
 rw[Cy M rfl,Ak (n:=4) rfl];simp only[Aa];refine(Ajn (K:=K) H (d:=e) (by omega) hK s O a x y z).Am ?_;rintro _ h2 ⟨rfl,E,t⟩;have U:D6 (.tuple []) false=false/\D6 (.tuple []) true=false:=⟨rfl,rfl⟩;cases hs:snR x y z es with
 | false=>
  simp only[Aa,Yj];exact .ret ⟨_,10,rfl,w1.trans E,t,fun y=>by cases y⟩
 | true=>
 have V:=E.at a M;simp only[Aa,Ac];rw[Ah V rfl (v:=.ptr b 0) rfl];have W:=O.ext fun i o q=>E.at a q
 refine(Ih (K:=K) W t).Am ?_;rintro _ h3 ⟨rfl,Y,u⟩;refine(Aav (K:=K) (g:=g) u j 0).Am ?_;rintro _ h4 ⟨rfl,P⟩;have hh:Y6 g j 0=false:=by
  cases hw:Y6 g j 0 with
  | false=>rfl
  | true=>
   refine absurd ⟨hs,?_⟩ C;simp only[Y6,G,wi,bD,bL,bM]at hw;omega
 rw[hh];simp only[Aa,Yj];exact .ret ⟨_,10,rfl,((w1.trans E).trans Y).trans P,P.hb u,fun y=>by cases y⟩
theorem Az3 {L:List Fr}(wL:∀f∈L,f.Wf)(a:L[i]? = some f):Mj (L.map Fr.cells).flatten (i*49) 49=some f.cells:=
 Alx (n:=49) _ _ _ (fun x j=>by obtain⟨f,a,rfl⟩:=cY.1 j;exact Fr.Az (wL f a)) (by rw[bA,a];rfl)
def Bls(h0:Ab):EV->Ab->Prop:=fun v h'=>∃(a:Int) (b c p:EV) (e:Int),v=.tuple [.agg [I a,b,c,p],I e]/\(b.plain=true/\c.plain=true/\p.plain=true)/\Ext h0 h'/\HB h'
theorem A2c(t:Ext h0 h)(hb:HB h)(l2:h0.next<=v2)(m:h.get v2=some (.cells [.int .i64 0,.int .i64 0,.int .i64 0,.Bu] 163)):
 Ok (Bo (Dg [(0,1),(1,1),(2,1),(3,1)]) [.int .i64 0,.int .i64 0,.int .i64 0,.Bu] [] fun j=>stE 4 (.ptr v2 0) j h fun u=>Ii TT [.c (.ptr v2 0) 163,.v (.int .i64 10)] u) (fun v h'=>Bls h0 v h'/\∃a b c p,v=.tuple [.agg [I a,b,c,p],I 10]):=by
 have l:=hb _ _ m;rw[Aw (l:=[.int .i64 0,.int .i64 0,.int .i64 0,.Bu]) rfl];refine Ok.stW m rfl rfl ?_;rw[Ea (Ae _ _ _) Azd.1 Azd.2 rfl];exact .ret ⟨⟨0,I 0,I 0,.Bu,10,rfl,⟨rfl,rfl,rfl⟩,t.Ao (.inr l2) l _,hb.put l _⟩,0,I 0,I 0,.Bu,rfl⟩
section
variable (A:Bw disp)(hK:10000<K){s:EV}{v4:Nat}{L:List Fr}{a1 a2 a3:Int}(wL:∀f∈L,f.Wf)(hL:L.length<=64)(l2:h0.next<=v2)(l4:h0.next<=v4)(n24:v2≠v4)
include wL hL l2 l4 n24
theorem Bqb(c r:Ai){v9:EV}{O:Nat}{M:List Fr}(E:∀f∈M,f.Wf)(V:M.length<=L.length):∀(n i:Nat) (h:Ab),M.length-i<n->i<=M.length->Ext h0 h->HB h->h.get v2=some (.cells [.int .i64 0,.int .i64 0,.int .i64 0,.Bu] 163)->h.get v4=some (.cells [I a1,I a2,I a3,.ptr b 0] 163)->Cc h s q 247 49 L.length (L.map Fr.cells).flatten->An6 h v9 O 247 49 M.length (M.map Fr.cells).flatten ->
 Ok (Tt c r K n s (.ptr v2 0) (.ptr v4 0) v9 (I M.length) (I i) h) (Bls h0):=by
 intro n;induction n with
 | zero=>intro i h P;omega
 | succ n S=>
  intro i h P W x hb u G row j;rw[Tt];simp only[I,Ac];by_cases p:i<M.length
  case neg=>
   have:decide ((i:Int)<(M.length:Int))=false:=by simp;omega
   simp only[this,Aa,Amp];rw[Cy G rfl,Ak (n:=4) rfl];simp only[Aa];have H:=hb _ _ u;refine Ok.stW u rfl rfl ?_;rw[Ea (Ae _ _ _) Azd.1 Azd.2 rfl];exact .ret ⟨a1,I a2,I a3,.ptr b 0,0,rfl,⟨rfl,rfl,rfl⟩,x.Ao (.inr l2) H _,hb.put H _⟩
  have:decide ((i:Int)<(M.length:Int))=true:=by simp;omega
  simp only[this,Aa,Av2];have C:i<L.length:=by omega
  have ix:=j.ix p;simp only[I]at ix;rw[ix,j.ldN (by omega) (Az3 E (aH p))];have w1:=E _ (av p);have w2:=wL _ (av C)
  try simp only[Aa]
  refine Ok.mk (by simp) (Fr.Az w1) fun J m T _=>?_
  have t:=m.hb hb;rw[Cn T rfl (Ak (Fr.Az w1))];have a:=row.frame (h':=J) fun y=>m.get _ (hb _ _ (row.block y)) id
  rw[a.ix C,Cn (a.block (by omega)) rfl (Az3 wL (aH C))];obtain⟨U,D⟩:=Bs1 w1 w2;rw[D];cases U with
  | true=>
   simp only[Aa];exact(A2c (x.trans m) t l2 (m.at hb u)).mono fun _ _ y=>y.1
  | false=>
   simp only[Aa,Avj,Ac];rw[Cg,show((i:Nat):Int)+1=((i+1:Nat):Int) by omega];exact S (i+1) J (by omega) (by omega) (x.trans m) t (m.at hb u) (m.at hb G) a (j.frame fun y=>m.get _ (j.lt hb y) id)
include A hK
theorem Bo7(hd:8<=d){ll:Nat}(j:0<L.length)(V:g.parts<=L.length)(O:rtB g=true)(m:Lj h b ml ll g es)(H:Ext h0 h)(hb:HB h)(J:h.get v2=some (.cells [.int .i64 0,.int .i64 0,.int .i64 0,.Bu] 163))(D:h.get v4=some (.cells [I a1,I a2,I a3,.ptr b 0] 163))(row:Cc h s q 247 49 L.length (L.map Fr.cells).flatten):
 Ok (Ae9 (Ag TT disp K d false) (Ag TT disp K d true) K s (.ptr v2 0) (.ptr v4 0) h) (Bls h0):=by
 have lq:=hb _ _ (row.block j);have E:=hb _ _ D;have e1:=Az3 wL (aH j);have e2:(L.map Fr.cells).flatten[0*49+1]? = some (I L[0].An):=by
  cases L with
  | nil=>cases j
  | cons f r=>rfl
 simp only[Ae9,Aa,Ar];rw[Gy E,Cy D rfl,Ak (n:=4) rfl]
 try simp only[Aa,Ar]
 rw[show ∀k:EV->R,Aal 49 s (.int .i64 0) k=k (.ptr q (0*49))from fun k=>row.ix j .i64 k]
 try simp only[Aa,Ar]
 rw[Gy lq,Ah (row.block j) rfl (v:=I L[0].An) e2]
 try simp only[Aa,Ar]
 refine Ok.bE (Bcm A (K:=K) (d:=d) (by omega) (by omega) O (m.frame (Br _ _) (Br _ _) (Br _ _)) (Da hb) a1 a2 a3 L[0].An) (fun _ _ p=>by obtain⟨_,_,_,x,_⟩:=p;exact x) ?_;rintro _ P h2 ⟨v9,e,rfl,_,S,t⟩ sm a;have u:=a.hb hb;simp only[Aa,I,Ac];by_cases G:e=0
 case neg=>
  rw[aJ G];simp only[Aa];exact(A2c (H.trans a) u l2 (a.at hb J)).mono fun _ _ y=>y.1
 rw[aK (show ¬¬e=0 from fun y=>y G)];simp only[Aa,Awa];obtain⟨W,M,T,Y,i9,Z⟩:=t G;have C:=T.frame (h':=h2) fun _=>sm.get _
 rw[C.Hc];exact Bqb wL hL l2 l4 n24 _ _ (fun f U=>(i9 f U).1) (by omega) K 0 h2 (by omega) (by omega) (H.trans a) u (a.at hb J) (a.at hb D) (row.frame fun y=>a.get _ (hb _ _ (row.block y)) id) C
theorem Bnc(hd:8<=d){ll p:Nat}(hr:rtB g=true)(hp:(p:Int)=g.parts)(p2:2<=p)(pL:p<=L.length)(lm:h0.next<=ml/\h0.next<=ll):∀(n i:Nat) (h:Ab) (es:List Me),(p-1)-i<n->i<=p-1->Lj h b ml ll g es->Ext h0 h->HB h->h.get v2=some (.cells [.int .i64 0,.int .i64 0,.int .i64 0,.Bu] 163)->h.get v4=some (.cells [I a1,I a2,I a3,.ptr b 0] 163)->Cc h s q 247 49 L.length (L.map Fr.cells).flatten ->
 Ok (Qm (Ag TT disp K d false) (Ag TT disp K d true) K n s (.ptr v2 0) (.ptr v4 0) (.slice q 49 (p-1) (L.length-1) true) (I (p-1:Nat)) (I i) h) (Bls h0):=by
 have sm:=Ul hr;intro n;induction n with
 | zero=>intro i h es hn;omega
 | succ n ih=>
  intro i h es hn hi m x0 hb g2 g4 row;rw[Qm];simp only[I,Ac];by_cases G:i<p-1
  case neg=>
   have:decide ((i:Int)<((p-1:Nat):Int))=false:=by simp;omega
   simp only[this,Aa];exact Bo7 A hK wL hL l2 l4 n24 hd (by omega) (by omega) hr m x0 hb g2 g4 row
  have:decide ((i:Int)<((p-1:Nat):Int))=true:=by simp;omega
  simp only[this,Aa,Asf];have hl:i+1<L.length:=by omega
  have e1:=Az3 wL (aH hl);rw[show(i+1)*49=49+i*49 by omega]at e1;rw[N5 G,Cn (row.block (by omega)) rfl e1];have w1:=wL _ (av hl);generalize L[i+1]=f at w1⊢
  try simp only[Aa]
  refine Ok.mk (by simp) (Fr.Az w1) fun h3 E g3 _=>?_
  have a:=E.hb hb;have H:=x0.trans E;have t:=E.at hb g2;have u:=E.at hb g4;have D:=m.ext fun i o q=>E.at hb q
  have C:=row.frame (h':=h3) fun y=>E.get _ (hb _ _ (row.block y)) id
  rw[Ah g3 rfl (v:=I f.off) rfl];simp only[I,Ac];rw[Cg];have au:D6 (.tuple []) false=false/\D6 (.tuple []) true=false:=⟨rfl,rfl⟩;have pb:g.parts<=200:=by have:=sm.b0;have:=sm.b1;unfold Gm.parts;omega
  by_cases ho:f.off=(i:Int)+1
  case neg=>
   rw[aJ ho];simp only[Aa,Ch,Ae7];exact(A2c H a l2 t).mono fun _ _ y=>y.1
  rw[aK (show ¬¬f.off=(i:Int)+1 from fun y=>y ho)];simp only[Aa,Ch];rw[Cy u rfl,Ak (n:=4) rfl]
  try simp only[Aa]
  rw[Cn g3 rfl (Ak (Fr.Az w1))];refine(A71 (K:=K) hK sm D a w1 (by omega) (x:=I a1) (y:=I a2) (z:=I a3) ⟨rfl,rfl,rfl⟩).Am ?_;rintro _ h4 ⟨e,S,rfl,m4,c4,J⟩;have T:=Ba t D.row (by simp);have U:=Ba t D.live (by simp);have V:=Ba u D.row (by simp);have W:=Ba u D.live (by simp);have M:=c4.at a t fun y=>y.elim T U
  have Y:=c4.at a u fun y=>y.elim V W
  have gq:=C.block (show 0<L.length by omega);have Z:=Ba gq D.row (by simp);have aa:=Ba gq D.live (by simp);have O:=C.frame (h':=h4) fun y=>c4.get _ (a _ _ gq) fun y=>y.elim Z aa
  have P:Ext h0 h4:=H.then c4 fun j hj G=>by rcases hj with rfl|rfl<;>omega
  simp only[I,Ac];by_cases k0:e=0
  case neg=>
   rw[aJ k0];simp only[Aa,Ch,Ae7];exact(A2c P J l2 M).mono fun _ _ y=>y.1
  rw[aK (show ¬¬e=0 from fun y=>y k0)];simp only[Aa,Ch,Ae7,Avy,Ac];rw[Cg,show((i:Nat):Int)+1=((i+1:Nat):Int) by omega];exact ih (i+1) h4 S (by omega) (by omega) m4 P J M Y O
end
theorem sl1 {p:Nat}(h2:2<=p)(a:p<=n)(k:EV->R):Aex 49 (.slice q 0 n n true) (some (.int .i64 1)) (some (.int .i64 (p:Int))) none k=k (.slice q 49 (p-1) (n-1) true):=by
 have:slc (.slice q 0 n n true) 49 (some (.int .i64 1)) (some (.int .i64 (p:Int))) none=some (.slice q 49 (p-1) (n-1) true):=by
  have b1:bound (some (.int .i64 (p:Int))) n n=some p:=by
   show Ax (Nat.ble p n) (some p) none=_;rw[aO a,Aj]
  have b2:bound (some (.int .i64 1)) p 0=some 1:=by
   show Ax (Nat.ble 1 p) (some 1) none=_;rw[aO (by omega),Aj]
  unfold slc;simp only[b1,b2];rw[Aj,show Nat.beq 1 0=false from rfl,Bc,aO (show Nat.succ 1<=n by omega),Aj];rfl
 unfold Aex;rw[this];rfl
theorem A6c(A:Bw disp)(hK:10000<K)(hd:9<=d):Bdh disp K d:=by
 intro h s q L row wL hL hb;obtain⟨e,rfl⟩:∃k,d=k+1:=⟨d-1,by omega⟩;rw[A3j A (by omega)];simp only[A39,Aa];obtain⟨P,e_,Z,g1,n1⟩:=nW h (.cells [.int .i64 0,.int .i64 0,.int .i64 0,.Bu] 163);rw[e_];have E:=Z.hb hb;have r1:=row.frame (h':=P) fun y=>Z.get _ (hb _ _ (row.block y)) id
 rw[r1.Hc];simp only[I,Ac];by_cases h0:L.length=0
 ·have:decide ((L.length:Int)=0)=true:=aJ (by omega)
  simp only[this,Aa];refine(A2c Z E (aD _) g1).mono ?_;rintro v h' ⟨⟨a,b,c,p,e,rfl,pl,xx,G⟩,a',b',c',p',w⟩;injection w with w;injection w with _ w;injection w with w;injection w with _ w;exact⟨a,b,c,p,e,rfl,pl,xx,G,fun _=>by rw[w];decide⟩
 have:decide ((L.length:Int)=0)=false:=aK (by omega);simp only[this,Aa,Asx];have u:0<L.length:=by omega
 have fin:∀{x:R},Ok x (Bls h)->Ok x fun v h'=>∃(a:Int) (b c p:EV) (e:Int),v=.tuple [.agg [I a,b,c,p],I e]/\(b.plain=true/\c.plain=true/\p.plain=true)/\Ext h h'/\HB h'/\(L = []->¬e=0):=fun a=>a.mono (by
  rintro v h' ⟨a,b,c,p,e,rfl,pl,xx,G⟩;exact⟨a,b,c,p,e,rfl,pl,xx,G,fun y=>absurd (by rw[y];rfl) h0⟩)
 have e1:Mj (L.map Fr.cells).flatten (0*49) 49=some L[0].cells:=Alx (n:=49) _ _ _ (fun x hx=>by obtain⟨f,hf,rfl⟩:=cY.1 hx;exact Fr.Az (wL f hf)) (by rw[bA,aH u];rfl);rw[show ∀k:EV->R,Aal 49 s (.int .i64 0) k=k (.ptr q (0*49))from fun k=>r1.ix u .i64 k,Cn (r1.block u) rfl e1];have fw:=wL _ (av u);refine fin ((A3x hK fw E).Am ?_);rintro v h2 ⟨x2,S,hv⟩;have bb:D6 (.tuple []) false=false/\D6 (.tuple []) true=false:=⟨rfl,rfl⟩;obtain⟨a1,a2,a3,p,er,rfl,pp,hp⟩:∃(a1 a2 a3:Int) (p:EV) (er:Int),v=EV.tuple [.agg [I a1,I a2,I a3,p],I er]/\p.plain=true/\((¬er=0)\/er=0/\∃g b ml ll es,p=.ptr b 0/\rtB g=true/\Lj h2 b ml ll g es/\P.next<=b/\P.next<=ml/\P.next<=ll):=by
  rcases hv with⟨a,b,c,rfl⟩|⟨a,b,c,g,p,ml,ll,es,rfl,w⟩
  ·exact⟨a,b,c,_,20,rfl,rfl,.inl (by decide)⟩
  ·exact⟨a,b,c,_,0,rfl,rfl,.inr ⟨rfl,g,p,ml,ll,es,rfl,w⟩⟩
 simp only[Aa];refine Ok.mk (by simp[EV.plain,pp]) rfl fun h3 x3 g3 _=>?_
 have j:=x3.hb S;have T:Ext P h3:=x2.trans x3;have U:Ext h h3:=Z.trans T;have H:=T.at E g1;have t2:=x2.next
 simp only[I,Ac];rcases hp with k0|⟨rfl,g,b,ml,ll,es,rfl,hr,m,lb,bj,bn⟩
 ·rw[aJ k0]
  simp only[Aa,Ch,Aa5];exact(A2c U j (aD _) H).mono fun _ _ y=>y.1
 rw[aK (show ¬¬(0:Int)=0 from fun y=>y rfl)];simp only[Aa,Ch];have sg:=Ul hr;have:=sg.b0;have:=sg.b1;have pb:2<=g.parts/\g.parts<=200:=by unfold Gm.parts;omega
 rw[Ah g3 rfl (v:=.ptr b 0) rfl];have m3:=m.ext fun i o q=>x3.at S q
 refine(Ih (K:=K) m3 j).Am ?_;rintro _ h4 ⟨rfl,x4,bt⟩;rw[Aaz sg,Ap];have t:Ext h3 (h4.new (.cells (gL g) 23)):=x4.C8 _;generalize h4.new (.cells (gL g) 23)=h5 at t⊢;have J:=t.hb j;have M:=U.trans t;have V:=row.frame (h':=h5) fun y=>M.get _ (hb _ _ (row.block y)) id
 rw[V.Hc];simp only[I,Ac];by_cases W:(L.length:Int)<g.parts
 ·rw[aJ (show g.parts>(L.length:Int)from W)]
  simp only[Aa,Ch,Aa5];exact(A2c M J (aD _) (t.at j H)).mono fun _ _ y=>y.1
 rw[aK (show ¬g.parts>(L.length:Int)from W)];simp only[Aa,Ch,Aa5,Aso];rw[Ah (t.at j g3) rfl (v:=.ptr b 0) rfl];have m5:=m3.ext fun i o q=>t.at j q
 refine(Ih (K:=K) m5 J).Am ?_;rintro _ h6 ⟨rfl,x6,bx⟩;rw[Aaz sg,Ap];have D:Ext h5 (h6.new (.cells (gL g) 23)):=x6.C8 _;generalize h6.new (.cells (gL g) 23)=h7 at D⊢;have al:=D.hb J;have Y:=M.trans D;have O:=t.trans D;have C:=row.frame (h':=h7) fun y=>Y.get _ (hb _ _ (row.block y)) id
 obtain⟨p,hp⟩:=aZ (show 0<=g.parts by omega);rw[hp,C.slice u];unfold I;rw[sl1 (by omega) (by omega)];rw[show ∀k:EV->R,Hc (.slice q 49 (p-1) (L.length-1) true) k=k (I (p-1:Nat))from fun _=>rfl];have:=Bnc A hK (h0:=h) (s:=s) (q:=q) (v2:=h.next) (v4:=h2.next) wL hL (aD _) (by omega) (by omega) (d:=e) (by omega) hr hp.symm (by omega) (by omega) ⟨by omega,by omega⟩ K 0 h7 es (by omega) (by omega) (m3.ext fun i o q=>Ext.at O j q) Y al (Ext.at O j H) (Ext.at O j g3) C;rw[C.slice u]at this;exact this
end Go.Ev
