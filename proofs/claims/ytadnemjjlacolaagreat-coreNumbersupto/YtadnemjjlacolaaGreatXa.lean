import Derived.Test.YtadnemjjlacolaaGreatWa
import Derived.Test.YtadnemjjlacolaaGreatDa
import Derived.Test.YtadnemjjlacolaaGreatDc
set_option linter.all false
namespace Go.Ev
open Go.Proofs
set_option maxRecDepth 100000
variable {a b x op cnt:Int}{k:Aa->List Nat->R}{ex:Nat->Aa->List Nat->R}{S:Nat->Prop}{h h' h0:Aa}{D K V d e i n t b2 b3 b4 d0 l0 ql zl cap:Nat}{o:Dt}{T:H7}{down:Bool}{ps:Nat->List Int}{v Jj happened:EV}{marks:List (EV × EV)}{xs:List Int}{tm tm1:Az}{disp:Nat->Option FT}
section
noncomputable def Av(T:H7)(g n i:Nat)(tm:Az)(st:LoopState)(p:Option Code)(d:Nat):Dt:=.loop st p g n tm (E4 T g i).2.1 (E4 T g i).2.2.1 (E4 T g i).2.2.2 d
noncomputable def Cd(T:H7)(g n i:Nat)(tm:Az)(h:Aa):Aa:=(h.new (.deferred true)).new (Av T g n i tm .ready none h.next)
section
variable{g l:Nat}{st:LoopState}{p:Option Code}{Q:EV->Aa->Prop}
theorem Jn:(Cd T g n i tm h).get (h.next+1)=some (Av T g n i tm .ready none h.next):=Ad _ _
theorem K9:(Cd T g n i tm h).get h.next=some (.deferred true):=by
 unfold Cd;rw[Aw _ (aL _)];exact Ad _ _
theorem Jf:Ext h (Cd T g n i tm h):=(Ar.new _ _).Df _
theorem Ayb:(Cd T g n i tm h).next=h.next+2:=rfl
theorem Yp {f:Aa->R}(j:h.get l=some (Av T g n i tm .ready p d)):E1 l h f=f (h.put l (Av T g n i tm .busy p d)):=by
 unfold E1;rw[j];rfl
theorem Q6 {b:Bool}{st':LoopState}{j:Option Code}(f:h.get l=some (Av T g n i tm st p d)):Wa l b st' j h=some (.bool b,h.put l (Av T g n i tm st' j d)):=by
 unfold Wa;rw[f];rfl
theorem Ok.range {c:Ai}{q:Nat}{f:List EV}{ds:List Nat}{ret:Aa->List Nat->R}
 (hc:Ok (c q (.Uv (h.next+1)::f) (Cd T g n i tm h)) fun _ h'=>
  (h'.get (h.next+1)=some (Av T g n i tm .ready none h.next)/\Ok (k (h'.put (h.next+1) (Av T g n i tm .exhausted none h.next)) (h.next::ds)) Q) \/
  (h'.get (h.next+1)=some (Av T g n i tm .done (some .ret) h.next)/\Ok (ret (h'.put (h.next+1) (Av T g n i tm .exhausted (some .ret) h.next)) (h.next::ds)) Q)) :
 Ok (Wd c T g n i (.func q [] f) tm h ds k ex ret) Q:=by
 obtain⟨v,h',e,j⟩:=hc;have:Wd c T g n i (.func q [] f) tm h ds k ex ret=A5s (h.next+1) (c q (.Uv (h.next+1)::f) (Cd T g n i tm h)) (fun h'=>k h' (h.next::ds)) (fun id h'=>ex id h' (h.next::ds)) (fun h'=>ret h' (h.next::ds)):=rfl;rw[this,e];unfold A5s;simp only;rcases j with⟨a,b⟩|⟨a,b⟩
 ·rw[a];exact b
 ·rw[a];exact b
theorem Ok.unwind:∀{ds:List Nat} {h:Aa} {k:Aa->R},ds.Nodup->(∀d∈ds,h.get d=some (.deferred true))->HB h->(∀h',Ar (fun i=>i∈ds) h h'->h'.next=h.next->Ok (k h') Q)->Ok (Fp ds h k) Q
 | [],h,k,_,_,_,j=>j h (Ar.refl _) rfl
 | d::ds,h,k,hn,hd,hb,j=>by
  obtain⟨A,B⟩:=cB.1 hn;have f:=hd d aW;have ld:=hb _ _ f;have e:Fp (d::ds) h k=Fp ds (h.put d (.deferred false)) k:=by
   show(match h.get d with|some (.deferred true)=>Fp ds (h.put d (.deferred false)) k|_=>none)=_;rw[f]
  rw[e];refine Ok.unwind B (fun x C=>?_) (hb.put ld _) fun h' c n=>j h' ?_ (by rw[n];rfl)
  ·rw[Af _ (fun y=>A (by rw[y];exact C))];exact hd x (aR _ C)
  ·exact((Ar.refl h).Aq (S:=fun i=>i∈d::ds) (.inl aW) ld _).trans (c.mono fun i E=>aR _ E)
end
structure Kp(S:Nat->Prop)(h0 h:Aa):Prop where
 chg:Ar S h0 h
 same:∀i,i<h0.next->h.get i=h0.get i
theorem Kp.refl(h:Aa):Kp S h h:=⟨Ar.refl _,fun _ _=>rfl⟩
theorem Ext.kp(x:Ext h0 h):Kp S h0 h:=⟨Ext.to x,fun i f=>x.get i f id⟩
theorem Kp.trans{a b c:Aa}(x:Kp S a b)(y:Kp S b c):Kp S a c:=⟨x.chg.trans y.chg,fun i f=>by rw[y.same i (aK f x.chg.next),x.same i f]⟩
theorem Kp.Aq(x:Kp S h0 h)(f:h0.next<=i)(hn:i<h.next)(o:Dt):Kp S h0 (h.put i o):=
 ⟨x.chg.Aq (.inr f) hn o,fun j hj=>by rw[Af _];exact x.same j hj⟩
theorem Kp.at(x:Kp S h0 h)(hb:HB h0)(g:h0.get i=some o):h.get i=some o:=by rw[x.same i (hb _ _ g)];exact g
theorem Kp.A3e {T:Nat->Prop}{a b c:Aa}(x:Kp S a b)(y:Ar T b c)(st:∀i,T i->a.next<=i):Kp S a c:=
 ⟨x.chg.then y fun i f A=>by have:=st i f;omega,fun i f=>by rw[y.get i (aK f x.chg.next) fun j=>by have:=st i j;omega,x.same i f]⟩
end
section
structure Gm where
 D:Int
 Z:Int
 S:Int
 B:Int
 P:Int
 O:Int
def gL(g:Gm):List EV:=[I g.D,I g.Z,I g.S,I g.B,I g.P,I g.O]
def gV(g:Gm):EV:=.agg (gL g)
def Gm.parts(g:Gm):Int:=1+(g.B+1)/2
def Gm.Dz(g:Gm):Int:=g.D*g.P+4
def Gm.least(g:Gm):Int:=min ((g.D-1)*(g.Z-g.P-2)-g.Dz+1) (g.D*(g.Z-g.P-2)-2*g.Dz+1)
def Gm.segments(g:Gm):Int:=g.least/2-1-g.D*g.P
def wi(n a b:Int):Bool:=decide (a<=n)&&decide (n<=b)
theorem Ec {n:Int}:wi n a b=true↔a<=n/\n<=b:=by simp[wi]
def smB(g:Gm):Bool:=wi g.D 3 8&&wi g.Z 1 64&&wi g.S 4 64&&wi g.B 1 256&&wi g.P 0 4&&wi g.O 4 64
def rtB(g:Gm):Bool:=smB g&&(decide (g.parts<=g.S)&&decide (2*g.B<=g.S*g.segments))
structure Sm(g:Gm):Prop where
 d0:3<=g.D
 d1:g.D<=8
 z0:1<=g.Z
 z1:g.Z<=64
 s0:4<=g.S
 s1:g.S<=64
 b0:1<=g.B
 b1:g.B<=256
 p0:0<=g.P
 p1:g.P<=4
 o0:4<=g.O
 o1:g.O<=64
theorem Ux {g:Gm}(h:smB g=true):Sm g:=by
 simp only[smB,aV,Ec]at h;exact⟨h.1.1.1.1.1.1,h.1.1.1.1.1.2,h.1.1.1.1.2.1,h.1.1.1.1.2.2,h.1.1.1.2.1,h.1.1.1.2.2,h.1.1.2.1,h.1.1.2.2,h.1.2.1,h.1.2.2,h.2.1,h.2.2⟩
theorem Oj {g:Gm}(h:rtB g=true):Sm g:=Ux (by unfold rtB at h;exact((aV _ _).mp h).1)
theorem Qi {A B:Int}(h0:0<=a)(f:a<=A)(h2:0<=b)(j:b<=B):0<=a*b/\a*b<=A*B:=
 ⟨dP h0 h2,Int.mul_le_mul f j h2 (Int.le_trans h0 f)⟩
theorem Aw7 {A B:Int}(h0:0<=a)(f:a<=A)(h2 : -B<=b)(j:b<=B)(y:0<=B): -(A*B)<=a*b/\a*b<=A*B:=by
 have e1:a*b<=a*B:=bP j h0;have e2:a*B<=A*B:=eU f y;have e3:a*(-B)<=a*b:=bP h2 h0;rw[Int.mul_neg]at e3;omega
theorem Bqc{k:EV->R}:Afi (bin T .shr t) (.int .i64 a) (.int .u64 1) k=k (.int .i64 (a/2)):=by
 cases a with
 | ofNat a=>
  show k (.int .i64 (.ofNat (Nat.shiftRight a 1)))=_;rw[show Nat.shiftRight a 1=a/2 from Nat.shiftRight_succ a 0];rfl
 | negSucc a=>
  show k (.int .i64 ((Int.negSucc a).fdiv (.ofNat 2)))=_;rw[fI _ (by decide)];rfl
theorem Bm5(a b:Int):ltB a b=decide (a<b):=by rw[<-Bae,Ar9]
theorem min2{j:Array TypeId}:builtin T .min j [.int .i64 a,.int .i64 b] h=some (.int .i64 (min a b),h):=by
 simp only[builtin,Abo,Bl,Bm5];rw[Bly];by_cases f:b<a
 ·rw[aH f,Int.min_eq_right (by omega)]
 ·rw[aF f,Int.min_eq_left (by omega)]
theorem Aep(n a b:Int)(h:Aa):K8 K (I n) (I a) (I b) h=some (.bool (wi n a b),h):=by
 simp only[K8,Ane,I,Ac,Bnm];by_cases f:a<=n
 ·simp only[f,aB,Aj,dz,Azc,wi,bA]
 ·simp only[f,aA,Bl,dz,Azc,wi,av]
theorem A0e(g:Gm)(h:Aa):Ui K (gV g) h=some (.bool (smB g),h.new (.cells (gL g) 23)):=by
 simp only[Ui,gV,Ab];have f:(h.new (.cells (gL g) 23)).get h.next=some (.cells (gL g) 23):=Ad _ _
 generalize h.new (.cells (gL g) 23)=j at f⊢;have w:=fun n a b=>Aep (K:=K) n a b j
 simp only[I]at w;simp only[Ab,Cs f rfl,gL,I,w,Ac];unfold smB;cases wi g.D 3 8 with
 | false=>simp only[Ab,Ac,G3,G6,G1,G4,G2,av]
 | true=>
 simp only[Ab,Cs f rfl,gL,I,w,Ac,G3];cases wi g.Z 1 64 with
 | false=>simp only[Ab,Ac,G3,G6,G1,G4,G2,av,cr]
 | true=>
 simp only[Ab,Cs f rfl,gL,I,w,Ac,G6];cases wi g.S 4 64 with
 | false=>simp only[Ab,Ac,G3,G6,G1,G4,G2,av,cr]
 | true=>
 simp only[Ab,Cs f rfl,gL,I,w,Ac,G1];cases wi g.B 1 256 with
 | false=>simp only[Ab,Ac,G3,G6,G1,G4,G2,av,cr]
 | true=>
 simp only[Ab,Cs f rfl,gL,I,w,Ac,G4];cases wi g.P 0 4 with
 | false=>simp only[Ab,Ac,G3,G6,G1,G4,G2,av,cr]
 | true=>
 simp only[Ab,Cs f rfl,gL,I,w,Ac,G2,bA]
theorem Apw {g:Gm}(s:Sm g)(h:Aa):Pu K (gV g) h=some (I g.parts,h.new (.cells (gL g) 23)):=by
 have:=s.b0;have:=s.b1;simp only[Pu,gV,Ab];have f:(h.new (.cells (gL g) 23)).get h.next=some (.cells (gL g) 23):=Ad _ _
 generalize h.new (.cells (gL g) 23)=j at f⊢;simp only[Ab,Cs f rfl,gL,I,Ac];rw[Cq (n:=g.B+2) (by omega) (by omega),Cq (n:=g.B+2-1) (by omega) (by omega),Bhm (by omega) (by omega) (by omega)];simp only[Ac];rw[Cq];rw[show 1+(g.B+2-1)/2=g.parts by unfold Gm.parts;rw[show g.B+2-1=g.B+1 by omega]]
theorem Abj {g:Gm}(s:Sm g)(h:Aa):J2 K (gV g) h=some (I g.Dz,h.new (.cells (gL g) 23)):=by
 have:=s.d0;have:=s.d1;have:=s.p0;have:=s.p1;obtain⟨j,m1⟩:=Qi (a:=g.D) (b:=g.P) (A:=8) (B:=4) (by omega) (by omega) (by omega) (by omega);simp only[J2,gV,Ab];have f:(h.new (.cells (gL g) 23)).get h.next=some (.cells (gL g) 23):=Ad _ _
 generalize h.new (.cells (gL g) 23)=y at f⊢;simp only[Ab,Cs f rfl,gL,I,Ac];rw[Cq (n:=g.D*g.P) (by omega) (by omega),Cq];rfl
theorem Oy {g:Gm}(s:Sm g)(h:Aa):Dn K (gV g) h=some (I (g.D*g.Z),h.new (.cells (gL g) 23)):=by
 have:=s.d0;have:=s.d1;have:=s.z0;have:=s.z1;obtain⟨j,m1⟩:=Qi (a:=g.D) (b:=g.Z) (A:=8) (B:=64) (by omega) (by omega) (by omega) (by omega);simp only[Dn,gV,Ab];have f:(h.new (.cells (gL g) 23)).get h.next=some (.cells (gL g) 23):=Ad _ _
 generalize h.new (.cells (gL g) 23)=y at f⊢;simp only[Ab,Cs f rfl,gL,I,Ac];rw[Cq (n:=g.D*g.Z) (by omega) (by omega)]
theorem Sm.Bkh {g:Gm}(s:Sm g):(0<=g.D*g.P/\g.D*g.P<=32)/\(-640<=(g.D-1)*(g.Z-g.P-2)/\(g.D-1)*(g.Z-g.P-2)<=640)/\(-640<=g.D*(g.Z-g.P-2)/\g.D*(g.Z-g.P-2)<=640):=by
 have:=s.d0;have:=s.d1;have:=s.p0;have:=s.p1;have:=s.z0;have:=s.z1;obtain⟨f,j⟩:=Qi (a:=g.D) (b:=g.P) (A:=8) (B:=4) (by omega) (by omega) (by omega) (by omega);obtain⟨b0,b1⟩:=Aw7 (a:=g.D-1) (b:=g.Z-g.P-2) (A:=10) (B:=64) (by omega) (by omega) (by omega) (by omega) (by omega);obtain⟨y,c1⟩:=Aw7 (a:=g.D) (b:=g.Z-g.P-2) (A:=10) (B:=64) (by omega) (by omega) (by omega) (by omega) (by omega);omega
theorem Aui {g:Gm}(s:Sm g)(h:Aa):Ok (Pg K (gV g) h) fun v h'=>v=I g.segments/\Ext h h':=by
 obtain⟨⟨J,L⟩,⟨b0,b1⟩,O,c1⟩:=s.Bkh;have:=s.d0;have:=s.d1;have:=s.p0;have:=s.p1;have:=s.z0;have:=s.z1;simp only[Pg,gV,Ab];have j:(h.new (.cells (gL g) 23)).get h.next=some (.cells (gL g) 23):=Ad _ _
 have hn:h.next<(h.new (.cells (gL g) 23)).next:=aL _
 have y:Ext h (h.new (.cells (gL g) 23)):=Ar.new _ _;generalize h.new (.cells (gL g) 23)=B at j hn y⊢;simp only[Ab,Au,Cm hn,Cs j rfl,Cw j rfl,Ak (show(gL g).length=6 from rfl),gL,I,Ac];rw[Cq (n:=g.Z-g.P) (by omega) (by omega),Cq (n:=g.Z-g.P-2) (by omega) (by omega)];refine Ok.bE (P:=fun v h2=>v=I g.Dz/\Ext B.lift h2) ⟨_,_,Abj s _,rfl,Ar.new _ _⟩ (fun _ _ p=>p.2) ?_;rintro _ h2 C ⟨rfl,_⟩ _ A;have f:C.get h.next=some (.cells (gL g) 23):=by rw[A.get _ hn id];exact j
 simp only[Ab,Cs f rfl,gL,I,Ac];unfold Gm.Dz;rw[Cq (n:=g.D-1) (by omega) (by omega),Cq (n:=(g.D-1)*(g.Z-g.P-2)) (by omega) (by omega),Cq (n:=(g.D-1)*(g.Z-g.P-2)-(g.D*g.P+4)) (by omega) (by omega),Cq (n:=(g.D-1)*(g.Z-g.P-2)-(g.D*g.P+4)+1) (by omega) (by omega),
  Cq (n:=g.D*(g.Z-g.P-2)) (by omega) (by omega),Cq (n:=2*(g.D*g.P+4)) (by omega) (by omega),Cq (n:=g.D*(g.Z-g.P-2)-2*(g.D*g.P+4)) (by omega) (by omega),Cq (n:=g.D*(g.Z-g.P-2)-2*(g.D*g.P+4)+1) (by omega) (by omega),
  min2,As,Bqc]
 simp only[Ac,Ab,Cs f rfl,gL,I];have E:g.least=min ((g.D-1)*(g.Z-g.P-2)-(g.D*g.P+4)+1) (g.D*(g.Z-g.P-2)-2*(g.D*g.P+4)+1):=rfl;rw[<-E];have F : -10000<=g.least:=by omega
 have G:g.least<=10000:=by omega
 rw[Cq (n:=g.least/2-1) (by omega) (by omega),Cq (n:=g.D*g.P) (by omega) (by omega),Cq (n:=g.least/2-1-g.D*g.P) (by omega) (by omega)];exact .ret ⟨rfl,y.trans A⟩
end
theorem Bjv {g:Gm}(s:Sm g): -2000<=g.segments/\g.segments<=2000:=by
 obtain⟨⟨f,j⟩,⟨b0,b1⟩,y,c1⟩:=s.Bkh;have A:g.least=min ((g.D-1)*(g.Z-g.P-2)-(g.D*g.P+4)+1) (g.D*(g.Z-g.P-2)-2*(g.D*g.P+4)+1):=rfl;have hs:g.segments=g.least/2-1-g.D*g.P:=rfl;omega
theorem Za(g:Gm)(h:Aa):Ok (Md K (gV g) h) fun v h'=>v=.bool (rtB g)/\Ext h h':=by
 simp only[Md,gV,Ab];have y:(h.new (.cells (gL g) 23)).get h.next=some (.cells (gL g) 23):=Ad _ _
 have hn:h.next<(h.new (.cells (gL g) 23)).next:=aL _
 have E:Ext h (h.new (.cells (gL g) 23)):=Ar.new _ _;generalize h.new (.cells (gL g) 23)=J at y hn E⊢;simp only[Ab,Au,Cm hn,Cs y rfl,Cw y rfl,Ak (show(gL g).length=6 from rfl)];refine Ok.bE (P:=fun v h2=>v=.bool (smB g)/\Ext J.lift h2) ⟨_,_,A0e g _,rfl,Ar.new _ _⟩ (fun _ _ p=>p.2) ?_;rintro _ h2 G ⟨rfl,_⟩ _ F;have C:G.get h.next=some (.cells (gL g) 23):=by rw[F.get _ hn id];exact y
 unfold rtB;cases hs:smB g with
 | false=>simp only[Ab,Ac,Pe,Lf,av];exact .ret ⟨rfl,E.trans F⟩
 | true=>
 have s:=Ux hs;have:=s.b0;have:=s.b1;simp only[Ab,Ac,Au,Cm hn,Cs C rfl,Cw C rfl,Ak (show(gL g).length=6 from rfl),bA];refine Ok.bE (P:=fun v h4=>v=I g.parts/\Ext G.lift h4) ⟨_,_,Apw s _,rfl,Ar.new _ _⟩ (fun _ _ p=>p.2) ?_;rintro _ h4 L ⟨rfl,_⟩ _ O;have f:=F.trans O;have j:L.get h.next=some (.cells (gL g) 23):=by rw[f.get _ hn id];exact y
 simp only[Ab,Ac,Au,Cm hn,Cs j rfl,gL,I,Pe];by_cases hp:g.parts<=g.S
 ·simp only[hp,aB,Ab,Au,Cm hn,Cs j rfl,Cw j rfl,Ak (show(gL g).length=6 from rfl),gL,I,Ac,bA]
  refine Ok.bE (Aui s _) (fun _ _ p=>p.2) ?_;rintro _ W X ⟨rfl,_⟩ _ U;obtain⟨t0,t1⟩:=Bjv s;have:=s.s0;have:=s.s1;obtain⟨Y,m1⟩:=Aw7 (a:=g.S) (b:=g.segments) (A:=64) (B:=2000) (by omega) (by omega) (by omega) (by omega) (by omega);simp only[Ac,I,Lf,Ab];rw[Cq (n:=2*g.B) (by omega) (by omega),Cq (n:=g.S*g.segments) (by omega) (by omega)];exact .ret ⟨rfl,E.trans (f.trans U)⟩
 ·simp only[hp,aA,Ab,Ac,Lf,av]
  exact .ret ⟨rfl,E.trans f⟩
theorem Blq {n:Int}(h0 : -100000<=n)(f:n<=100000)(h:Aa):N4 K (I n) h=some (I (n/2),h):=by
 simp only[N4,I,Ac,Ab];by_cases hn:n<0
 ·simp only[hn,aB,Ab,Ac]
  rw[Cq,Bhm (by omega) (by omega) (by omega)];simp only[Bhr];rw[Cq,show 0-(1-n)/2=n/2 by omega]
 ·simp only[hn,aA,Ab,Ww]
  rw[Bhm (by omega) (by omega) (by omega)]
theorem A7b {g:Gm}(s:Sm g){a:Nat}(j:h.get a=some (.cells (gL g) 88)):∀(m:Nat) (i:Int),0<=i->(g.B-i).toNat<m->i<=g.B+1->i%2=0 ->
 Gc K m (.ptr a 0) (I (1+i/2)) (I i) h=some (I g.parts,h):=by
 have:=s.b0;have:=s.b1;intro m;induction m with
 | zero=>intro i _ hm;omega
 | succ m y=>
  intro i C hm hle A;simp only[Gc,Ab,Ac,Cs j rfl,gL,I];by_cases f:i<g.B
  ·simp only[f,aB,Ab,Ac,Sz,Te]
   rw[Cq (n:=1+i/2+1) (by omega) (by omega),Cq (n:=i+2) (by omega) (by omega),show 1+i/2+1=1+(i+2)/2 by omega];exact y (i+2) (by omega) (by omega) (by omega) (by omega)
  ·simp only[f,aA,Ab,Tg]
   unfold Gm.parts;rw[show 1+i/2=1+(g.B+1)/2 by omega]
theorem Bde {g:Gm}(s:Sm g)(hK:1000<K)(h:Aa):Kx K (gV g) h=some (I g.parts,h.new (.cells (gL g) 88)):=by
 have:=s.b0;have:=s.b1;simp only[Kx,gV,Ab];exact A7b s (Ad _ _) K 0 (by omega) (by omega) (by omega) (by omega)
theorem A4l {g:Gm}(s:Sm g)(h:Aa):Ok (Ia K (gV g) h) fun v h'=>v=I g.segments/\Ext h h':=by
 obtain⟨⟨F,G⟩,⟨b0,b1⟩,J,c1⟩:=s.Bkh;have:=s.d0;have:=s.d1;have:=s.p0;have:=s.p1;have:=s.z0;have:=s.z1;simp only[Ia,gV,Ab];have j:(h.new (.cells (gL g) 88)).get h.next=some (.cells (gL g) 88):=Ad _ _
 have hn:h.next<(h.new (.cells (gL g) 88)).next:=aL _
 have A:Ext h (h.new (.cells (gL g) 88)):=Ar.new _ _;generalize h.new (.cells (gL g) 88)=B at j hn A⊢;have L:g.least=min ((g.D-1)*(g.Z-g.P-2)-(g.D*g.P+4)+1) (g.D*(g.Z-g.P-2)-2*(g.D*g.P+4)+1):=rfl;have fin:∀n,n=g.least->Ok (J8 K (.ptr h.next 0) (I n) B) fun v h'=>v=I g.segments/\Ext h h':=by
  rintro _ rfl;simp only[J8,Ab];refine Ok.bE (P:=fun v h2=>v=I (g.least/2)/\Ext B.lift h2) ⟨_,_,Blq (by omega) (by omega) _,rfl,Ar.refl _⟩ (fun _ _ p=>p.2) ?_;rintro _ h2 E ⟨rfl,_⟩ _ C;have y:E.get h.next=some (.cells (gL g) 88):=by rw[C.get _ hn id];exact j
  simp only[Ab,Au,Cm hn,Cs y rfl,gL,I,Ac];rw[Cq (n:=g.least/2-1) (by omega) (by omega),Cq (n:=g.D*g.P) (by omega) (by omega),Cq (n:=g.least/2-1-g.D*g.P) (by omega) (by omega)];exact .ret ⟨rfl,A.trans C⟩
 simp only[Ab,Cs j rfl,gL,I,Ac];rw[Cq (n:=g.Z-g.P) (by omega) (by omega),Cq (n:=g.Z-g.P-2) (by omega) (by omega),Cq (n:=g.D*g.P) (by omega) (by omega),Cq (n:=g.D*g.P+4) (by omega) (by omega),
  Cq (n:=g.D-1) (by omega) (by omega),Cq (n:=(g.D-1)*(g.Z-g.P-2)) (by omega) (by omega),Cq (n:=(g.D-1)*(g.Z-g.P-2)-(g.D*g.P+4)) (by omega) (by omega),Cq (n:=(g.D-1)*(g.Z-g.P-2)-(g.D*g.P+4)+1) (by omega) (by omega),
  Cq (n:=g.D*(g.Z-g.P-2)) (by omega) (by omega),Cq (n:=2*(g.D*g.P+4)) (by omega) (by omega),Cq (n:=g.D*(g.Z-g.P-2)-2*(g.D*g.P+4)) (by omega) (by omega),Cq (n:=g.D*(g.Z-g.P-2)-2*(g.D*g.P+4)+1) (by omega) (by omega)]
 by_cases f:g.D*(g.Z-g.P-2)-2*(g.D*g.P+4)+1<(g.D-1)*(g.Z-g.P-2)-(g.D*g.P+4)+1
 ·simp only[f,aB,Ab]
  exact fin _ (by omega)
 ·simp only[f,aA,Ab]
  exact fin _ (by omega)
theorem Bdm(g:Gm)(hK:1000<K)(h:Aa):Ok (Hu K (gV g) h) fun v h'=>v=.bool (rtB g)/\Ext h h':=by
 simp only[Hu,gV,Ab];have j:(h.new (.cells (gL g) 88)).get h.next=some (.cells (gL g) 88):=Ad _ _
 have hn:h.next<(h.new (.cells (gL g) 88)).next:=aL _
 have C:Ext h (h.new (.cells (gL g) 88)):=Ar.new _ _;generalize h.new (.cells (gL g) 88)=W at j hn C⊢;have no:∀b,b=false->Ok (some (.bool false,W)) fun v h'=>v=.bool (b&&(decide (g.parts<=g.S)&&decide (2*g.B<=g.S*g.segments)))/\Ext h h':=by
  rintro _ rfl;exact .ret ⟨by rw[av],C⟩
 unfold rtB;have f:∀{p:Prop} [Decidable p],¬p->(smB g=true->p)->smB g=false:=fun hp hq=>by
  cases hb:smB g with
  | false=>rfl
  | true=>exact absurd (hq hb) hp
 simp only[Ab,Cs j rfl,gL,I,Ac];by_cases c1:g.D<3
 ·simp only[c1,aB,Ab,Ac,Hp,Ft,Eg,D3,C9,Cu,Cp,Cg,Bw,Bu,Bp]
  exact no _ (f (p:=¬g.D<3) (by simpa using c1) fun hb=>by have:=(Ux hb).d0;omega)
 simp only[c1,aA,Ab,Ac,Cs j rfl,gL,I,Hp];by_cases c2:8<g.D
 ·simp only[c2,aB,Ab,Ac,Ft,Eg,D3,C9,Cu,Cp,Cg,Bw,Bu,Bp]
  exact no _ (f (p:=¬8<g.D) (by simpa using c2) fun hb=>by have:=(Ux hb).d1;omega)
 simp only[c2,aA,Ab,Ac,Cs j rfl,gL,I,Ft];by_cases c3:g.Z<1
 ·simp only[c3,aB,Ab,Ac,Eg,D3,C9,Cu,Cp,Cg,Bw,Bu,Bp]
  exact no _ (f (p:=¬g.Z<1) (by simpa using c3) fun hb=>by have:=(Ux hb).z0;omega)
 simp only[c3,aA,Ab,Ac,Cs j rfl,gL,I,Eg];by_cases c4:64<g.Z
 ·simp only[c4,aB,Ab,Ac,D3,C9,Cu,Cp,Cg,Bw,Bu,Bp]
  exact no _ (f (p:=¬64<g.Z) (by simpa using c4) fun hb=>by have:=(Ux hb).z1;omega)
 simp only[c4,aA,Ab,Ac,Cs j rfl,gL,I,D3];by_cases E:g.S<4
 ·simp only[E,aB,Ab,Ac,C9,Cu,Cp,Cg,Bw,Bu,Bp]
  exact no _ (f (p:=¬g.S<4) (by simpa using E) fun hb=>by have:=(Ux hb).s0;omega)
 simp only[E,aA,Ab,Ac,Cs j rfl,gL,I,C9];by_cases F:64<g.S
 ·simp only[F,aB,Ab,Ac,Cu,Cp,Cg,Bw,Bu,Bp]
  exact no _ (f (p:=¬64<g.S) (by simpa using F) fun hb=>by have:=(Ux hb).s1;omega)
 simp only[F,aA,Ab,Ac,Cs j rfl,gL,I,Cu];by_cases G:g.B<1
 ·simp only[G,aB,Ab,Ac,Cp,Cg,Bw,Bu,Bp]
  exact no _ (f (p:=¬g.B<1) (by simpa using G) fun hb=>by have:=(Ux hb).b0;omega)
 simp only[G,aA,Ab,Ac,Cs j rfl,gL,I,Cp];by_cases J:256<g.B
 ·simp only[J,aB,Ab,Ac,Cg,Bw,Bu,Bp]
  exact no _ (f (p:=¬256<g.B) (by simpa using J) fun hb=>by have:=(Ux hb).b1;omega)
 simp only[J,aA,Ab,Ac,Cs j rfl,gL,I,Cg];by_cases L:g.P<0
 ·simp only[L,aB,Ab,Ac,Bw,Bu,Bp]
  exact no _ (f (p:=¬g.P<0) (by simpa using L) fun hb=>by have:=(Ux hb).p0;omega)
 simp only[L,aA,Ab,Ac,Cs j rfl,gL,I,Bw];by_cases d1:4<g.P
 ·simp only[d1,aB,Ab,Ac,Bu,Bp]
  exact no _ (f (p:=¬4<g.P) (by simpa using d1) fun hb=>by have:=(Ux hb).p1;omega)
 simp only[d1,aA,Ab,Ac,Cs j rfl,gL,I,Bu];by_cases d2:g.O<4
 ·simp only[d2,aB,Ab,Ac,Bp]
  exact no _ (f (p:=¬g.O<4) (by simpa using d2) fun hb=>by have:=(Ux hb).o0;omega)
 simp only[d2,aA,Ab,Ac,Cs j rfl,gL,I,Bp];by_cases d3:64<g.O
 ·simp only[d3,aB,Ab]
  exact no _ (f (p:=¬64<g.O) (by simpa using d3) fun hb=>by have:=(Ux hb).o1;omega)
 have hs:smB g=true:=by
  simp only[smB,aV,Ec];omega
 have s:=Ux hs;rw[hs];simp only[d3,aA,Ab,Ac,Td,Au,Cm hn,Cw j rfl,Ak (show(gL g).length=6 from rfl),bA];refine Ok.bE (P:=fun v h4=>v=I g.parts/\Ext W.lift h4) ⟨_,_,Bde s hK _,rfl,Ar.new _ _⟩ (fun _ _ p=>p.2) ?_;rintro _ h4 X ⟨rfl,_⟩ _ U;have y:X.get h.next=some (.cells (gL g) 88):=by rw[U.get _ hn id];exact j
 simp only[Ab,Ac,Au,Cm hn,Cs y rfl,gL,I];by_cases hp:g.parts<=g.S
 ·simp only[hp,aB,Ab,Au,Cm hn,Cs y rfl,Cw y rfl,Ak (show(gL g).length=6 from rfl),gL,I,Ac,bA]
  refine Ok.bE (A4l s _) (fun _ _ p=>p.2) ?_;rintro _ h6 h7 ⟨rfl,_⟩ _ Y;obtain⟨t0,t1⟩:=Bjv s;have:=s.s0;have:=s.s1;have:=s.b0;have:=s.b1;obtain⟨m0,m1⟩:=Aw7 (a:=g.S) (b:=g.segments) (A:=64) (B:=2000) (by omega) (by omega) (by omega) (by omega) (by omega);simp only[Ac,I,Ib,Ab];rw[Cq (n:=2*g.B) (by omega) (by omega),Cq (n:=g.S*g.segments) (by omega) (by omega)];exact .ret ⟨rfl,C.trans (U.trans Y)⟩
 ·simp only[hp,aA,Ab,Ac,Ib,av]
  exact .ret ⟨rfl,C.trans U⟩
theorem A16(f:1<=n)(h2:n<=4096)(h:Aa):Ao9 K (I n) h=some (.tuple [.ptr (h.next+1) 0,I 0],(h.new (.chan n [])).new (.cells [.chan h.next] 176)):=by
 simp only[Ao9,I,Ac,Ab];have a:¬(n:Int)<1:=by omega
 have b:¬(4096:Int)<(n:Int):=by omega
 simp only[a,b,aA,Ab,Ac,Ats,Aub];have hm:Ao7 (.int .i64 (n:Int)) h=some (.chan h.next,h.new (.chan n [])):=by
  show Ba (Nat.ble n 65536) _ none=_;rw[aQ (by omega),Aj]
 rw[hm,As,Ax (l:=[.chan h.next]) rfl];simp only[Ab];rfl
structure Et(h:Aa)(p ql n:Nat)(q c:Nat->Nat)(g:Gm)(ps:Nat->List Int):Prop where
 pos:0<n
 Gl:h.get p=some (.cells (gL g++[.slice ql 0 n n true]) 123)
 row:h.get ql=some (.vec ((List.range n).map fun d=>.ptr (q d) 0) 124 1)
 que:∀d,d<n->h.get (q d)=some (.cells [.chan (c d)] 176)
 chan:∀d,d<n->h.get (c d)=some (.chan g.Z.toNat ((ps d).map I))
 inj:∀d e,d<n->e<n->c d=c e->d=e
structure Bam(h0 h:Aa)(p ql i:Nat)(q c:Nat->Nat)(g:Gm)(s:EV):Prop where
 Gl:h.get p=some (.cells (gL g++[s]) 123)
 row:Cj h s ql 124 1 i ((List.range i).map fun d=>.ptr (q d) 0)
 que:∀d,d<i->h.get (q d)=some (.cells [.chan (c d)] 176)
 chan:∀d,d<i->h.get (c d)=some (.chan g.Z.toNat [])
 inj:∀d e,d<i->e<i->c d=c e->d=e
 new:h0.next<=p/\(0<i->h0.next<=ql)/\∀d,d<i->h0.next<=q d/\h0.next<=c d
 ext:Ext h0 h
 hb:HB h
theorem Azy {g:Gm}(s:Sm g)(h0:Aa){b p:Nat}(Y:b<h0.next)(hg:h0.get b=some (.cells (gL g) 23)):∀(m i:Nat) (ql:Nat) (q c:Nat->Nat) (B:EV) (h:Aa),g.D.toNat-i<m->i<=g.D.toNat->Bam h0 h p ql i q c g B ->
 Ok (Aa6 K m (.ptr b 0) (.ptr p 0) (I g.D) (I i) h) fun v h'=>v=.tuple [.ptr p 0,I 0]/\Ext h0 h'/\HB h'/\∃ql q c B,Bam h0 h' p ql g.D.toNat q c g B:=by
 have:=s.d0;have:=s.d1;have:=s.z0;have:=s.z1;intro m;induction m with
 | zero=>intro i _ _ _ _ _ hm;omega
 | succ m ih=>
  intro i ql q c B h hm hi P;simp only[Aa6,I,Ac,Ab];by_cases J:(i:Int)<g.D
  ·have aa:h.get b=some (.cells (gL g) 23):=by rw[P.ext.get _ Y id];exact hg
   simp only[J,aB,Ab,Avr,Cs aa rfl,gL,I];have hq:=A16 (K:=K) (n:=g.Z.toNat) (by omega) (by omega) h;rw[fO (by omega)]at hq;simp only[I]at hq;simp only[hq,Ab,Ac,aC,aA,Awg];have e1:Ext h ((h.new (.chan g.Z.toNat [])).new (.cells [.chan h.next] 176)):=(Ar.new _ _).trans (Ar.new _ _);have y:HB ((h.new (.chan g.Z.toNat [])).new (.cells [.chan h.next] 176)):=(P.hb.new _).new _;have gq:((h.new (.chan g.Z.toNat [])).new (.cells [.chan h.next] 176)).get (h.next+1)=some (.cells [.chan h.next] 176):=Ad _ _;have gc:((h.new (.chan g.Z.toNat [])).new (.cells [.chan h.next] 176)).get h.next=some (.chan g.Z.toNat []):=by rw[Aw _ (aL _)];exact Ad _ _
   have n1:((h.new (.chan g.Z.toNat [])).new (.cells [.chan h.next] 176)).next=h.next+2:=rfl
   generalize (h.new (.chan g.Z.toNat [])).new (.cells [.chan h.next] 176)=A at e1 y gq gc n1⊢;have gp:A.get p=some (.cells (gL g++[B]) 123):=e1.at P.hb P.Gl;have F:Cj A B ql 124 1 i ((List.range i).map fun d=>.ptr (q d) 0):=P.row.frame fun hl=>e1.get _ (P.hb _ _ (P.row.block hl)) id
   have lp:=P.hb _ _ P.Gl;rw[Cs gp rfl,show(gL g++[B])[6]? = some B from rfl,Gx];refine Nu (z:=[.Ga]) F y rfl rfl rfl (by omega) (by omega) ?_;intro h2 G n2 c2;have n0:=P.ext.next
   have C:∀x o,A.get x=some o->(∀l e sz,o≠.vec l e sz)->¬(0<i/\x=ql):=by
    rintro x o X L ⟨hl,rfl⟩;rw[F.block hl]at X;cases X;exact L _ _ _ rfl
   have U:h2.get p=some (.cells (gL g++[B]) 123):=c2.at y gp (C _ _ gp (by intros;simp));refine Ok.st (gL g++[EV.slice (A.next+1) 0 (i+1) (i+1) true]) U rfl rfl rfl ?_;simp only[Awh,I,Ac];rw[Cq];have hE:Ext h h2->Ext h0 h2:=fun x=>P.ext.trans x
   have x2:Ext h0 h2:=by
    refine(P.ext.trans e1).then c2 fun j hj J=>?_
    have:=(P.new.2.1 hj.1);omega
   have x3:Ext h0 (h2.put p (.cells (gL g++[EV.slice (A.next+1) 0 (i+1) (i+1) true]) 123)):=x2.Aq (.inr P.new.1) (by have:=c2.next;omega) _;have af:=c2.hb y;have ag:HB (h2.put p (.cells (gL g++[EV.slice (A.next+1) 0 (i+1) (i+1) true]) 123)):=af.put (by have:=c2.next;omega) _;have Bt:∀x o,h.get x=some o->(∀l e sz,o≠.vec l e sz)->x≠p->(h2.put p (.cells (gL g++[EV.slice (A.next+1) 0 (i+1) (i+1) true]) 123)).get x=some o:=by
    intro x o X L ah;rw[Af _ (cP ah)];have W:=e1.at P.hb X;exact c2.at y W (C _ _ W L)
   have au:h.next<A.next:=by omega
   have P':Bam h0 (h2.put p (.cells (gL g++[EV.slice (A.next+1) 0 (i+1) (i+1) true]) 123)) p (A.next+1) (i+1) (fun d=>if d=i then h.next+1 else q d) (fun d=>if d=i then h.next else c d) g (.slice (A.next+1) 0 (i+1) (i+1) true):=by
    refine⟨Ae _ _ _,?_,?_,?_,?_,⟨P.new.1,fun _=>by omega,?_⟩,x3,ag⟩
    ·have:(List.range (i+1)).map (fun d=>EV.ptr (if d=i then h.next+1 else q d) 0)=((List.range i).map fun d=>EV.ptr (q d) 0)++EV.cells (.ptr (h.next+1) 0):=by
      rw[cb,cS];congr 1
      ·refine cW fun d hd=>?_
       rw[aF (by have:=dK.1 hd;omega)]
      ·simp[EV.cells]
     rw[this];refine G.frame fun _=>Af _ ?_
     have:=G.block (by omega);exact Bb U this (by simp)
    ·intro d hd
     by_cases f:d=i
     ·subst f
      simp only[bI];rw[Af _];exact c2.at y gq (C _ _ gq (by intros;simp))
     ·simp only[f,ak]
      have:=P.que d (by omega);exact Bt _ _ this (by intros;simp) (Bb this P.Gl (by simp))
    ·intro d hd
     by_cases f:d=i
     ·subst f
      simp only[bI];rw[Af _];exact c2.at y gc (C _ _ gc (by intros;simp))
     ·simp only[f,ak]
      have:=P.chan d (by omega);exact Bt _ _ this (by intros;simp) (Bb this P.Gl (by simp))
    ·intro d e hd he E
     have lc:=fun d (hd:d<i)=>P.hb _ _ (P.chan d hd)
     by_cases f:d=i<;>by_cases O:e=i
     ·omega
     ·simp only[f,O,bI,ak]at E;have:=lc e (by omega);omega
     ·simp only[f,O,bI,ak]at E;have:=lc d (by omega);omega
     ·simp only[f,O,ak]at E;exact P.inj d e (by omega) (by omega) E
    ·intro d hd
     by_cases f:d=i
     ·subst f;simp only[bI];omega
     ·simp only[f,ak];exact P.new.2.2 d (by omega)
   exact ih (i+1) _ _ _ _ _ (by omega) (by omega) P'
  ·have:i=g.D.toNat:=by omega
   subst this;simp only[J,aA,Ab,Av1];exact .ret ⟨rfl,P.ext,P.hb,ql,q,c,B,P⟩
theorem A3y {g:Gm}(U:rtB g=true)(hK:1000<K)(hb:HB h):Ok (Aid K (gV g) h) fun v h'=>∃p ql q c,v=.tuple [.ptr p 0,I 0]/\Ext h h'/\HB h'/\Et h' p ql g.D.toNat q c g (fun _=>[])/\h.next<=p/\h.next<=ql/\∀d,d<g.D.toNat->h.next<=q d/\h.next<=c d:=by
 have s:=Oj U;have:=s.d0;have:=s.d1;simp only[Aid,gV,Ab];have G:(h.new (.cells (gL g) 23)).get h.next=some (.cells (gL g) 23):=Ad _ _
 have hn:h.next<(h.new (.cells (gL g) 23)).next:=aL _
 have F:Ext h (h.new (.cells (gL g) 23)):=Ar.new _ _;generalize h.new (.cells (gL g) 23)=X at G hn F⊢;simp only[Cw G rfl,Ak (show(gL g).length=6 from rfl),Ab];refine(Za g X).Ap ?_;rintro _ h2 ⟨rfl,y⟩;rw[U];have j:h2.get h.next=some (.cells (gL g) 23):=by rw[y.get _ hn id];exact G
 have A:h.next<h2.next:=aK hn y.next
 simp only[Ab,Avf,Cw j rfl,Ak (show(gL g).length=6 from rfl)];rw[Ax (l:=gL g++[.Ao]) rfl];simp only[Ab];have J:=(y.hb (F.hb hb));have B:(h2.new (.cells (gL g++[.Ao]) 123)).get h.next=some (.cells (gL g) 23):=by rw[Aw _ A];exact j
 have C:(h2.new (.cells (gL g++[.Ao]) 123)).get h2.next=some (.cells (gL g++[.Ao]) 123):=Ad _ _
 have W:Ext h2 (h2.new (.cells (gL g++[.Ao]) 123)):=Ar.new _ _;have E:HB (h2.new (.cells (gL g++[.Ao]) 123)):=J.new _;have n3:h2.next<(h2.new (.cells (gL g++[.Ao]) 123)).next:=aL _
 generalize h2.new (.cells (gL g++[.Ao]) 123)=Y at B C W E n3⊢;simp only[Cs B rfl,gL,Ab,I];refine(Azy (K:=K) (p:=h2.next) s h2 A j K 0 0 (fun _=>0) (fun _=>0) .Ao Y (by omega) (by omega) ⟨C,.nil _ _ _ _,fun d hd=>absurd hd (bm _),fun d hd=>absurd hd (bm _),fun d e hd=>absurd hd (bm _),⟨aE _,fun x=>absurd x (bO _),fun d hd=>absurd hd (bm _)⟩,W,E⟩).mono ?_;rintro v h' ⟨rfl,x4,L,ql,q,c,sl,P⟩;refine⟨h2.next,ql,q,c,rfl,F.trans (y.trans x4),L,?_⟩;have f:0<g.D.toNat:=by omega
 have O:=P.row.slice f;subst O;have t:=F.next
 have t2:=y.next
 exact⟨⟨f,P.Gl,P.row.block f,P.que,P.chan,P.inj⟩,by omega,by have:=P.new.2.1 f;omega,fun d hd=>by have:=P.new.2.2 d hd;omega⟩
theorem A6b {g:Gm}(f:rtB g=false)(h:Aa):Ok (Aid K (gV g) h) fun v h'=>v=.tuple [.Ga,I 20]/\Ext h h':=by
 simp only[Aid,gV,Ab];obtain⟨j,y,A,B,_⟩:=nW h (.cells (gL g) 23);rw[y];simp only[Cw B rfl,Ak (show(gL g).length=6 from rfl),Ab];refine(Za g j).Ap ?_;rintro _ h2 ⟨rfl,C⟩;rw[f];simp only[Ab];exact .ret ⟨rfl,A.trans C⟩
theorem Ays(n a:Int)(h:Aa):Aat K (I n) (I a) h=some (.bool (wi n 1 a),h):=by
 simp only[Aat,I,Ac,Ab];by_cases f:1<=n
 ·simp only[f,aB,Ab,Ac,Ads,wi,bA]
 ·simp only[f,aA,Ab,Ac,Ads,wi,av]
def Uh(size:Int):Dt:=.cells [.Ao,I size,I 0,I 0,.bool false] 202
theorem A3h {size:Int}(f:1<=size)(h2:size<=64)(h:Aa):Ly K (I size) h=some (.tuple [.ptr h.next 0,I 0],h.new (Uh size)):=by
 have a:¬size<1:=by omega
 have b:¬64<size:=by omega
 simp only[Ly,I,Ac,Ab,a,b,aA,T5,T3];rw[Ax (l:=[.Ao,I size,I 0,I 0,.bool false]) rfl];simp only[Ab];rfl
structure Zn where
 l:List (List EV)
 safe:Nat
 st:Nat
 fin:Bool
def Zn.empty:Zn:=⟨[],0,0,false⟩
structure Fg(h:Aa)(z q:Nat)(size:Int)(Z:Zn):Prop where
 Ah:∃s,h.get z=some (.cells [s,I size,I Z.safe,I Z.st,.bool Z.fin] 202)/\Cj h s q 30 64 Z.l.length Z.l.flatten
 wf:∀x∈Z.l,x.length=64
structure Lq(h:Aa)(V zl n:Nat)(z q:Nat->Nat)(size op cnt:Int)(down:Bool)(Zs:Nat->Zn):Prop where
 pos:0<n
 dev:h.get V=some (.cells [.slice zl 0 n n true,I size,I op,I cnt,.bool down] 183)
 row:h.get zl=some (.vec ((List.range n).map fun i=>.ptr (z i) 0) 184 1)
 Ah:∀i,i<n->Fg h (z i) (q i) size (Zs i)
 A4s:∀i j,i<n->j<n->z i=z j->i=j
 A75:∀i j,i<n->j<n->(Zs i).l≠[]->(Zs j).l≠[]->q i=q j->i=j
structure Bca(h0 h:Aa)(V zl i:Nat)(z:Nat->Nat)(size op:Int)(s:EV):Prop where
 dev:h.get V=some (.cells [s,I size,I op,I 0,.bool false] 183)
 row:Cj h s zl 184 1 i ((List.range i).map fun d=>.ptr (z d) 0)
 Ah:∀d,d<i->h.get (z d)=some (Uh size)
 A4s:∀d e,d<i->e<i->z d=z e->d=e
 new:h0.next<=V/\(0<i->h0.next<=zl)/\∀d,d<i->h0.next<=z d
 ext:Ext h0 h
 hb:HB h
theorem Az3 {size:Int}(hn:n<=512)(s0:1<=size)(s1:size<=64)(h0:Aa):∀(m i:Nat) (zl:Nat) (z:Nat->Nat) (F:EV) (h:Aa),n-i<m->i<=n->Bca h0 h V zl i z size op F ->
 Ok (Zp K m (I size) (.ptr V 0) (I n) (I i) h) fun v h'=>v=.tuple [.ptr V 0,I 0]/\∃zl z F,Bca h0 h' V zl n z size op F:=by
 intro m;induction m with
 | zero=>intro i _ _ _ _ hm;omega
 | succ m ih=>
  intro i zl z F h hm hi P;simp only[Zp,I,Ac,Ab];by_cases G:(i:Int)<n
  ·simp only[G,aB,Ab,Avn]
   have hq:=A3h (K:=K) s0 s1 h;simp only[I]at hq;simp only[hq,Ab,Ac,aC,aA,Awe];have e1:Ext h (h.new (Uh size)):=Ar.new _ _;have y:HB (h.new (Uh size)):=P.hb.new _;have gz:(h.new (Uh size)).get h.next=some (Uh size):=Ad _ _
   have n1:(h.new (Uh size)).next=h.next+1:=rfl
   generalize h.new (Uh size)=A at e1 y gz n1⊢;have O:A.get V=some (.cells [F,I size,I op,I 0,.bool false] 183):=e1.at P.hb P.dev;have C:Cj A F zl 184 1 i ((List.range i).map fun d=>.ptr (z d) 0):=P.row.frame fun hl=>e1.get _ (P.hb _ _ (P.row.block hl)) id
   have lp:=P.hb _ _ P.dev;rw[Cs O rfl];simp only[Ab];refine Nu (z:=[.Ga]) C y rfl rfl rfl (by omega) (by omega) ?_;intro h2 E n2 c2;have n0:=P.ext.next
   have U:∀x o,A.get x=some o->(∀l e sz,o≠.vec l e sz)->¬(0<i/\x=zl):=by
    rintro x o hx J ⟨hl,rfl⟩;rw[C.block hl]at hx;cases hx;exact J _ _ _ rfl
   have W:=c2.at y O (U _ _ O (by intros;simp));refine Ok.st1 W rfl rfl (by show 0<5;decide) ?_;simp only[Awb,I,Ac,List.set];rw[Cq];have x2:Ext h0 h2:=by
    refine(P.ext.trans e1).then c2 fun j hj G=>?_
    have:=(P.new.2.1 hj.1);omega
   have ad:=c2.hb y;have X:V<h2.next:=by have:=c2.next;omega
   have x3:=x2.Aq (.inr P.new.1) X (.cells [EV.slice (A.next+1) 0 (i+1) (i+1) true,I size,I op,I 0,.bool false] 183);have ae:=ad.put X (.cells [EV.slice (A.next+1) 0 (i+1) (i+1) true,I size,I op,I 0,.bool false] 183);have Bt:∀x o,A.get x=some o->(∀l e sz,o≠.vec l e sz)->x≠V->(h2.put V (.cells [EV.slice (A.next+1) 0 (i+1) (i+1) true,I size,I op,I 0,.bool false] 183)).get x=some o:=by
    intro x o Y J af;rw[Af _ (cP af)];exact c2.at y Y (U _ _ Y J)
   have P':Bca h0 (h2.put V (.cells [EV.slice (A.next+1) 0 (i+1) (i+1) true,I size,I op,I 0,.bool false] 183)) V (A.next+1) (i+1) (fun d=>if d=i then h.next else z d) size op (.slice (A.next+1) 0 (i+1) (i+1) true):=by
    refine⟨Ae _ _ _,?_,?_,?_,⟨P.new.1,fun _=>by omega,?_⟩,x3,ae⟩
    ·have:(List.range (i+1)).map (fun d=>EV.ptr (if d=i then h.next else z d) 0)=((List.range i).map fun d=>EV.ptr (z d) 0)++EV.cells (.ptr h.next 0):=by
      rw[cb,cS];congr 1
      ·refine cW fun d hd=>?_
       rw[aF (by have:=dK.1 hd;omega)]
      ·simp[EV.cells]
     rw[this];refine E.frame fun _=>Af _ ?_
     have:=E.block (by omega);exact Bb W this (by simp)
    ·intro d hd
     by_cases f:d=i
     ·subst f
      simp only[bI];exact Bt _ _ gz (by intros;simp[Uh]) (Bb gz O (by simp[Uh]))
     ·simp only[f,ak]
      have:=e1.at P.hb (P.Ah d (by omega));exact Bt _ _ this (by intros;simp[Uh]) (Bb this O (by simp[Uh]))
    ·intro d e hd he B
     have lc:=fun d (hd:d<i)=>P.hb _ _ (P.Ah d hd)
     by_cases f:d=i<;>by_cases L:e=i
     ·omega
     ·simp only[f,L,bI,ak]at B;have:=lc e (by omega);omega
     ·simp only[f,L,bI,ak]at B;have:=lc d (by omega);omega
     ·simp only[f,L,ak]at B;exact P.A4s d e (by omega) (by omega) B
    ·intro d hd
     by_cases f:d=i
     ·subst f;simp only[bI];omega
     ·simp only[f,ak];exact P.new.2.2 d (by omega)
   exact ih (i+1) _ _ _ _ (by omega) (by omega) P'
  ·have:i=n:=by omega
   subst this;simp only[G,aA,Ab,Av5];exact .ret ⟨rfl,zl,z,F,P⟩
def Anq(Zq size op:Int):Bool:=wi Zq 1 512&&wi op 1 64&&wi size 1 64
theorem A2y {Zq size:Int}(A:Anq Zq size op=true)(hK:1000<K)(hb:HB h):Ok (Asv K (I Zq) (I size) (I op) h) fun v h'=>∃V zl z,v=.tuple [.ptr V 0,I 0]/\Ext h h'/\HB h'/\Lq h' V zl Zq.toNat z (fun _=>0) size op 0 false (fun _=>Zn.empty)/\h.next<=V/\h.next<=zl/\∀d,d<Zq.toNat->h.next<=z d:=by
 simp only[Anq,aV]at A;obtain⟨⟨B,C⟩,E⟩:=A;obtain⟨L,O⟩:=Ec.1 B;obtain⟨F,c1⟩:=Ec.1 E;have w:=fun n a=>Ays (K:=K) n a h
 simp only[I]at w;simp only[Asv,I,w,B,C,Ab,Ac,Av6,Av0];rw[Ax (l:=[.Ao,I size,I op,I 0,.bool false]) rfl];simp only[Ab];have P:Bca h (h.new (.cells [.Ao,I size,I op,I 0,.bool false] 183)) h.next 0 0 (fun _=>0) size op .Ao:=
  ⟨Ad _ _,.nil _ _ _ _,fun d hd=>absurd hd (bm _),fun d e hd=>absurd hd (bm _),⟨aE _,fun x=>absurd x (bO _),fun d hd=>absurd hd (bm _)⟩,Ar.new _ _,hb.new _⟩
 have:=Az3 (K:=K) (n:=Zq.toNat) (by omega) F c1 h K 0 0 (fun _=>0) .Ao _ (by omega) (by omega) P;rw[fO (by omega)]at this;refine this.mono ?_;rintro v h' ⟨rfl,zl,z,U,P⟩;have f:0<Zq.toNat:=by omega
 have y:=P.row.slice f;subst y;exact⟨h.next,zl,z,rfl,P.ext,P.hb,⟨f,P.dev,P.row.block f,fun i G=>⟨⟨_,P.Ah i G,.nil _ _ _ _⟩,fun x J=>by cases J⟩,P.A4s,fun i j _ _ a=>absurd rfl a⟩,aE _,P.new.2.1 f,P.new.2.2⟩
structure Ag9(h:Aa)(D V M zl n:Nat)(z q:Nat->Nat)(size op cnt:Int)(down:Bool)(Jj happened:EV)(marks:List (EV × EV))(Zs:Nat->Zn):Prop where
 Dr:h.get D=some (.cells [.ptr V 0,Jj,happened,.map M] 143)
 marks:h.get M=some (.map marks)
 dev:Lq h V zl n z q size op cnt down Zs
theorem Lq.ext{z q:Nat->Nat}{size:Int}{Zs:Nat->Zn}(d:Lq h V zl n z q size op cnt down Zs)(g:∀i o,h.get i=some o->h'.get i=some o):Lq h' V zl n z q size op cnt down Zs:=by
 refine⟨d.pos,g _ _ d.dev,g _ _ d.row,fun i f=>?_,d.A4s,d.A75⟩;obtain⟨s,a,b⟩:=(d.Ah i f).Ah;exact⟨⟨s,g _ _ a,b.frame fun j=>by rw[g _ _ (b.block j),b.block j]⟩,(d.Ah i f).wf⟩
theorem Et.ext{p:Nat}{q c:Nat->Nat}{g:Gm}(d:Et h p ql n q c g ps)(e:∀i o,h.get i=some o->h'.get i=some o):Et h' p ql n q c g ps:=
 ⟨d.pos,e _ _ d.Gl,e _ _ d.row,fun i f=>e _ _ (d.que i f),fun i f=>e _ _ (d.chan i f),d.inj⟩
theorem Ag9.ext{M:Nat}{z q:Nat->Nat}{size:Int}{Zs:Nat->Zn}(d:Ag9 h D V M zl n z q size op cnt down Jj happened marks Zs)(e:∀i o,h.get i=some o->h'.get i=some o):
 Ag9 h' D V M zl n z q size op cnt down Jj happened marks Zs:=⟨e _ _ d.Dr,e _ _ d.marks,d.dev.ext e⟩
theorem A2a {Zq size:Int}(B:Anq Zq size op=true)(hK:1000<K)(hb:HB h):Ok (An8 K (I Zq) (I size) (I op) h) fun v h'=>∃D V M zl z,v=.tuple [.ptr D 0,I 0]/\Ext h h'/\HB h'/\Ag9 h' D V M zl Zq.toNat z (fun _=>0) size op 0 false .Ao .Ao [] (fun _=>Zn.empty)/\(h.next<=D/\h.next<=M)/\h.next<=V/\h.next<=zl/\∀d,d<Zq.toNat->h.next<=z d:=by
 simp only[An8,dr];refine(A2y (K:=K) B hK hb).Ap ?_;rintro _ f ⟨V,zl,z,rfl,y,j,d1,nw⟩;simp only[Ab,Ac,I,aC,aA,Av3];rw[show Asd f=some (.map f.next,f.new (.map []))from rfl,As,Ax (l:=[.ptr V 0,.Ao,.Ao,.map f.next]) rfl];simp only[Ab];have A:Ext f ((f.new (.map [])).new (.cells [.ptr V 0,.Ao,.Ao,.map f.next] 143)):=(Ar.new _ _).Df _;refine .ret ⟨(f.new (.map [])).next,V,f.next,zl,z,rfl,y.trans A,(j.new _).new _,⟨Ad _ _,?_,d1.ext fun i o g=>A.at j g⟩,⟨by have:=y.next;show h.next<=f.next+1;omega,y.next⟩,nw⟩;rw[Aw _ (aL _)];exact Ad _ _
section
def Am0(ps:Nat->List Int)(n:Nat)(d:Int):Nat:=if 0<=d/\d<n then(ps d.toNat).length else 0
theorem Atw{q c:Nat}{buf:List EV}(hq:h.get q=some (.cells [.chan c] 176))(hc:h.get c=some (.chan cap buf)):E3 K (.ptr q 0) h=some (I buf.length,h):=by
 simp only[E3,Ab,Cs hq rfl];have:A25 (.chan c) h=some (I buf.length,h):=by
  show(match h.get c with|some (.chan _ buf)=>some (EV.int .i64 (.ofNat (len buf)),h)|_=>none)=_;rw[hc];simp only;rw[Tq];rfl
 rw[this];rfl
section
variable{p:Nat}{q c:Nat->Nat}{g:Gm}(P:Et h p ql n q c g ps)
include P
theorem Et.rowAt:Cj h (.slice ql 0 n n true) ql 124 1 n ((List.range n).map fun d=>.ptr (q d) 0):=.inr ⟨P.pos,rfl,P.row,by simp⟩
theorem Et.list(k:EV->R):Ez (.ptr p 6) h k=k (.slice ql 0 n n true):=by rw[Cs P.Gl rfl];rfl
theorem Et.A8l(k:EV->R):Ox 6 (.ptr p 0) h k=k (gV g):=by rw[Cw P.Gl rfl];rfl
theorem Et.A4x(hd:d<n)(k:EV->R):Ez (.ptr ql (d*1)) h k=k (.ptr (q d) 0):=by
 rw[Cs P.row rfl,bW,bB,cJ hd];rfl
theorem Et.len(hd:d<n):E3 K (.ptr (q d) 0) h=some (I (ps d).length,h):=by
 rw[Atw (P.que d hd) (P.chan d hd),bZ]
theorem A0k(d:Int):Uf K (.ptr p 0) (I d) h=some (I (Am0 ps n d:Nat),h):=by
 unfold Am0;simp only[Uf,I,Ac,Ab];by_cases f:d<0
 ·simp only[f,aB,Ab,Ac,Um]
  rw[aF (by omega)];rfl
 ·simp only[f,aA,Ab,Ac,P.list,Um]
  by_cases h2:(n:Int)<=d
  ·simp only[h2,aB,Ab]
   rw[aF (by omega)];rfl
  ·simp only[h2,aA,Ab,Aej,P.list]
   have hd:d.toNat<n:=by omega
   have e:d=(d.toNat:Int):=by omega
   rw[e,P.rowAt.ix hd];simp only[Ab,P.A4x hd];rw[P.len hd,As,aH (by omega)];rfl
end
def A7p(ps:Nat->List Int)(O1:Int)(b:Int)(d:Nat):Int:=if ¬(d:Int)=O1/\(b<0\/(ps b.toNat).length<(ps d).length)then d else b
def D6(ps:Nat->List Int)(O1:Int)(n:Nat):Int:=(List.range n).foldl (A7p ps O1) (-1)
theorem Aq5(ps:Nat->List Int)(O1:Int)(n:Nat):D6 ps O1 (n+1)=A7p ps O1 (D6 ps O1 n) n:=by unfold D6;rw[cb,List.foldl_append];rfl
theorem Axj(ps:Nat->List Int)(O1:Int):∀n,-1<=D6 ps O1 n/\D6 ps O1 n<(n:Int)/\(D6 ps O1 n = -1\/0<=D6 ps O1 n)
 | 0=>by unfold D6;simp
 | n+1=>by
  obtain⟨a,b,c⟩:=Axj ps O1 n;rw[Aq5];unfold A7p;split<;>omega
def A92(n:Nat)(ps:Nat->List Int):Prop:=n<=64/\∀d,d<n->(ps d).length<=4096
theorem A3q {p:Nat}{q c:Nat->Nat}{g:Gm}(O1:Int)(hn:n<=64):∀(m i:Nat) (h:Aa),n-i<m->i<=n->HB h->Et h p ql n q c g ps ->
 Ok (Hb K m (.ptr p 0) (I O1) (I (D6 ps O1 i)) (.slice ql 0 n n true) (I n) (I i) h) fun v h'=>v=I (D6 ps O1 n)/\Ext h h':=by
 intro m;induction m with
 | zero=>intro i h hm;omega
 | succ m U=>
  intro i h hm W hb P;simp only[Hb,I,Ac,Ab];by_cases B:(i:Int)<n
  ·have y:i<n:=by omega
   simp only[B,aB,Ab,Aal];rw[P.rowAt.ix y,P.A4x y];obtain⟨b0,b1,b2⟩:=Axj ps O1 i;have next:∀(b:Int) (C:Aa),b=D6 ps O1 (i+1)->Ext h C->Ok (Mh K (Hb K m) (.ptr p 0) (.int .i64 O1) (.int .i64 b) (.slice ql 0 n n true) (.int .i64 (n:Int)) (.int .i64 (i:Int)) C) fun v h'=>v=I (D6 ps O1 n)/\Ext h h':=by
    rintro _ C rfl F;simp only[Mh,Ac];rw[Cq];exact(U (i+1) C (by omega) (by omega) (F.hb hb) (P.ext fun i o g=>F.at hb g)).mono fun v h' a=>⟨a.1,F.trans a.2⟩
   rw[Aq5]at next
   unfold A7p at next
   simp only[Ab,Ac];by_cases f:(i:Int)=O1
   ·simp only[f,aC,aA,Ab,Ac,Nj,He,G8]
    rw[aF (fun x=>x.1 f)]at next
    rw[f]at next
    exact next _ h rfl (Ar.refl _)
   ·simp only[f,aN,aB,Ab,Ac,Nj]
    by_cases j:D6 ps O1 i<0
    ·simp only[j,aB,Ab,Ac,He,G8]
     rw[aH ⟨f,.inl j⟩]at next
     exact next _ h rfl (Ar.refl _)
    ·simp only[j,aA,Ab,Ac]
     refine Ok.bE (P:=fun v h2=>v=I (ps i).length/\Ext h.lift h2) ⟨_,_,(P.ext (h':=h.lift) fun i o g=>by rw[By];exact g).len y,rfl,Ar.refl _⟩ (fun _ _ p=>p.2) ?_;rintro _ h2 G ⟨rfl,_⟩ _ J;have E:Et G p ql n q c g ps:=P.ext fun i o g=>J.at hb g
     have hp:p<h.next:=hb _ _ P.Gl
     have hq:ql<h.next:=hb _ _ P.row
     have A:(D6 ps O1 i).toNat<n:=by omega
     simp only[Ab,Au,Cm hp,E.list];rw[show D6 ps O1 i=((D6 ps O1 i).toNat:Int) by omega,E.rowAt.ix A];simp only[Ab,Au,Cm hq,E.A4x A];refine Ok.bE (P:=fun v h2=>v=I (ps (D6 ps O1 i).toNat).length/\Ext G.lift h2) ⟨_,_,(E.ext (h':=G.lift) fun i o g=>by rw[By];exact g).len A,rfl,Ar.refl _⟩ (fun _ _ p=>p.2) ?_;rintro _ h4 L ⟨rfl,_⟩ _ O;rw[show((D6 ps O1 i).toNat:Int)=D6 ps O1 i by omega];simp only[Ac,I];by_cases hc:((ps (D6 ps O1 i).toNat).length:Int)<(ps i).length
     ·simp only[hc,aB,He,G8,Ab,Ac]
      rw[aH ⟨f,.inr (by omega)⟩]at next
      exact next _ L rfl (J.trans O)
     ·simp only[hc,aA,He,G8,Ab,Ac]
      rw[aF (fun x=>by rcases x.2 with a|a<;>omega)]at next
      exact next _ L rfl (J.trans O)
  ·have:i=n:=by omega
   subst this;simp only[B,aA,Ab,Aa9];exact .ret ⟨rfl,Ar.refl _⟩
theorem Ard{p:Nat}{q c:Nat->Nat}{g:Gm}(P:Et h p ql n q c g ps)(hb:HB h)(hn:n<=64)(hK:1000<K)(O1:Int):
 Ok (J3 K (.ptr p 0) (I O1) h) fun v h'=>v=I (D6 ps O1 n)/\Ext h h':=by
 simp only[J3,Ab,P.list];exact A3q O1 hn K 0 h (by omega) (by omega) hb P
def Nl(ps:Nat->List Int)(n:Nat):Nat:=((List.range n).map fun d=>(ps d).length).sum
theorem Il(ps:Nat->List Int)(n:Nat):Nl ps (n+1)=Nl ps n+(ps n).length:=by unfold Nl;rw[cb,cS,List.sum_append];simp
def Fh(ps:Nat->List Int)(n:Nat):Int:=min ((Nl ps n:Int)/2) (Nl ps n-Am0 ps n (D6 ps (-1) n))
theorem A90 {p:Nat}{q c:Nat->Nat}{g:Gm}(hs:A92 n ps)(hb:HB h)(P:Et h p ql n q c g ps)(hK:1000<K):∀(m i:Nat),n-i<m->i<=n->Nl ps i<=4096*i ->
 Ok (Lk K m (.ptr p 0) (I (Nl ps i)) (.slice ql 0 n n true) (I n) (I i) h) fun v h'=>v=I (Fh ps n)/\Ext h h':=by
 obtain⟨hn,y⟩:=hs;intro m;induction m with
 | zero=>intro i hm;omega
 | succ m C=>
  intro i hm E A;simp only[Lk,I,Ac,Ab];by_cases j:(i:Int)<n
  ·have f:i<n:=by omega
   have:=y i f;simp only[j,aB,Ab,Afa];rw[P.rowAt.ix f,P.A4x f,P.len f,As];simp only[I,Ac,Aed];rw[Cq,Cq];have e:((Nl ps i:Int)+(ps i).length)=(Nl ps (i+1):Nat):=by rw[Il];omega
   rw[e];exact C (i+1) (by omega) (by omega) (by rw[Il];omega)
  ·have:i=n:=by omega
   subst this;simp only[j,aA,Ab,Aef];rw[Bhm (by omega) (by omega) (by omega)];refine(Ard P hb hn hK (-1)).Ap ?_;rintro _ F ⟨rfl,B⟩;rw[A0k (P.ext fun i o g=>B.at hb g),As];simp only[I,Ac];have hle:Am0 ps i (D6 ps (-1) i)<=4096:=by
    unfold Am0;split
    ·exact y _ (by omega)
    ·omega
   rw[Cq,min2,As];exact .ret ⟨rfl,B⟩
theorem A4w{p:Nat}{q c:Nat->Nat}{g:Gm}(P:Et h p ql n q c g ps)(hb:HB h)(hs:A92 n ps)(hK:1000<K):
 Ok (Gw K (.ptr p 0) h) fun v h'=>v=I (Fh ps n)/\Ext h h':=by
 simp only[Gw,Ab,P.list];exact A90 hs hb P hK K 0 (by obtain⟨a,_⟩:=hs;omega) (by omega) (by unfold Nl;simp)
end
section
noncomputable def Aao(D:Nat)(g:Gm)(p bl n:Nat)(a b u:Int):List EV:=[.ptr D 0]++gL g++Bi++[.ptr p 0,.slice bl 0 n n false,I a,I b,I u]
theorem Qx:Bi.length=256:=by kernel_rfl
section
variable (D:Nat)(g:Gm)(p bl n:Nat)(a b u:Int)
theorem Axm:(Aao D g p bl n a b u).length=268:=by unfold Aao;simp[Qx,gL]
theorem A9t:(Aao D g p bl n a b u)[0]? = some (.ptr D 0):=rfl
theorem Bfp:Mo (Aao D g p bl n a b u) 1 6=some (gL g):=by kernel_rfl
theorem A84:Mo (Aao D g p bl n a b u) 7 256=some Bi:=by kernel_rfl
theorem Bej:(Aao D g p bl n a b u)[263]? = some (.ptr p 0):=by kernel_rfl
theorem Bhv:(Aao D g p bl n a b u)[264]? = some (.slice bl 0 n n false):=by kernel_rfl
theorem Bnr:(Aao D g p bl n a b u)[265]? = some (I a):=by kernel_rfl
theorem Bo8:(Aao D g p bl n a b u)[266]? = some (I b):=by kernel_rfl
theorem Bno:(Aao D g p bl n a b u)[267]? = some (I u):=by kernel_rfl
end
theorem Sx{l:List EV}(f:h.get i=some (.cells l t))(hs:TT.size t=some n)(j:TT.agg t=some true)(y:l.length=n):It TT [.c (.ptr i 0) t] h=some (.agg l,h):=by
 have A:Ir h i 0 n=some l:=by
  unfold Ir;rw[f];simp only;rw[<-Agm];exact Ak y
 unfold It;simp only[Awm,hs,A,j]
structure Aav(h:Aa)(m D p bl n:Nat)(g:Gm)(a b u:Int)(bad:Nat->Int):Prop where
 H9:h.get m=some (.cells (Aao D g p bl n a b u) 111)
 Awv:h.get bl=some (.cells ((List.range n).map fun z=>I (bad z)) 3)
section
variable{m p bl:Nat}{g:Gm}{u:Int}{bad:Nat->Int}(M:Aav h m D p bl n g a b u bad)
include M
theorem Aav.Dr(k:EV->R):Ez (.ptr m 0) h k=k (.ptr D 0):=by rw[Cs M.H9 rfl,A9t];rfl
theorem Aav.A8l(k:EV->R):Ox 6 (.ptr m 1) h k=k (gV g):=by rw[Cw M.H9 rfl,Bfp];rfl
theorem Aav.table(k:EV->R):Ox 256 (.ptr m 7) h k=k Vl:=by rw[Cw M.H9 rfl,A84];rfl
theorem Aav.Gl(k:EV->R):Ez (.ptr m 263) h k=k (.ptr p 0):=by rw[Cs M.H9 rfl,Bej];rfl
theorem Aav.Bph(k:EV->R):Ez (.ptr m 264) h k=k (.slice bl 0 n n false):=by rw[Cs M.H9 rfl,Bhv];rfl
theorem Aav.oa(k:EV->R):Ez (.ptr m 265) h k=k (I a):=by rw[Cs M.H9 rfl,Bnr];rfl
theorem Aav.ob(k:EV->R):Ez (.ptr m 266) h k=k (I b):=by rw[Cs M.H9 rfl,Bo8];rfl
theorem Aav.ou(k:EV->R):Ez (.ptr m 267) h k=k (I u):=by rw[Cs M.H9 rfl,Bno];rfl
theorem Aav.ext(e:∀i o,h.get i=some o->h'.get i=some o):Aav h' m D p bl n g a b u bad:=⟨e _ _ M.H9,e _ _ M.Awv⟩
omit M in
theorem Bl4:TT.size 23=some 6/\TT.agg 23=some true:=⟨by kernel_rfl,by kernel_rfl⟩
omit M in
theorem Bp6:TT.size 96=some 256/\TT.agg 96=some true:=⟨by kernel_rfl,by kernel_rfl⟩
end
section
variable{M:Nat}{z q:Nat->Nat}{size:Int}{Zs:Nat->Zn}
theorem Ak9(d:Ag9 h D V M zl n z q size op cnt down Jj happened marks Zs):Ek K (.ptr D 0) h=some (.ptr V 0,h):=by simp only[Ek,Ab,Cs d.Dr rfl]
theorem At5(d:Lq h V zl n z q size op cnt down Zs):Mw K (.ptr V 0) h=some (I n,h):=by simp only[Mw,Ab,Cs d.dev rfl,I]
theorem Au9(d:Lq h V zl n z q size op cnt down Zs):Oa K (.ptr V 0) h=some (I size,h):=by simp only[Oa,Ab,Cs d.dev rfl]
end
theorem Bn3(v:EV):∀n,rep [v] n=List.replicate n v
 | 0=>rfl
 | n+1=>by show[v]++rep [v] n=_;rw[Bn3 v n];rfl
theorem Avd(v:EV)(n:Nat):(List.range n).map (fun _=>v)=List.replicate n v:=by
 rw[List.map_const',eT]
theorem Azu {g:Gm}(hK:1000<K)(hb:HB h){M:Nat}{z q:Nat->Nat}{size:Int}{Zs:Nat->Zn}(dr:Ag9 h D V M zl n z q size op cnt down Jj happened marks Zs):
 Ok (Aeg K (.ptr D 0) (gV g) Vl h) fun v h'=>Ext h h'/\HB h'/\if rtB g=true/\g.D*g.Z=n/\g.S=size then
  ∃m p bl ql q c,v=.tuple [.ptr m 0,I 0]/\Aav h' m D p bl n g (-1) (-1) 0 (fun _=>0)/\Et h' p ql g.D.toNat q c g (fun _=>[])/\(h.next<=m/\h.next<=bl)/\h.next<=p/\h.next<=ql/\∀d,d<g.D.toNat->h.next<=q d/\h.next<=c d else v=.tuple [.Ga,I 20]:=by
 have ai:Sh 96 Vl (h.new (.cells (gL g) 23))=fun(k:EV->Aa->R)=>k (.ptr (h.next+1) 0) ((h.new (.cells (gL g) 23)).new (.cells Bi 96)):=rfl
 simp only[Aeg,gV,Ab,ai];have g4:((h.new (.cells (gL g) 23)).new (.cells Bi 96)).get h.next=some (.cells (gL g) 23):=by rw[Aw _ (aL _)];exact Ad _ _
 have g5:((h.new (.cells (gL g) 23)).new (.cells Bi 96)).get (h.next+1)=some (.cells Bi 96):=Ad _ _;have F:Ext h ((h.new (.cells (gL g) 23)).new (.cells Bi 96)):=(Ar.new _ _).Df _;have n1:((h.new (.cells (gL g) 23)).new (.cells Bi 96)).next=h.next+2:=rfl
 generalize (h.new (.cells (gL g) 23)).new (.cells Bi 96)=h1 at g4 g5 F n1⊢;have E:=F.hb hb;simp only[Cw g4 rfl,Ak (show(gL g).length=6 from rfl),Ab];cases hr:rtB g with
 | false=>
  refine(A6b hr h1).Ap ?_;rintro _ h2 ⟨rfl,C⟩;simp only[Ab,I,Ac,show ¬((20:Int)=0) by decide,aN,aB,Zb,Qa];exact .ret ⟨F.trans C,C.hb E,rfl⟩
 | true=>
  have s:=Oj hr;have:=s.d0;have:=s.d1;have:=s.z0;have:=s.z1;obtain⟨m0,m1⟩:=Qi (a:=g.D) (b:=g.Z) (A:=8) (B:=64) (by omega) (by omega) (by omega) (by omega);refine(A3y hr hK E).Ap ?_;rintro _ h2 ⟨p,ql,qq,c,rfl,C,j,P,nw⟩;have k2:∀i o,h.get i=some o->h2.get i=some o:=fun i o g=>C.at E (F.at hb g)
  have l4:h.next<h2.next:=by have:=C.next;omega
  have l5:h.next+1<h2.next:=by have:=C.next;omega
  have U:=C.at E g4;have aq:=C.at E g5;simp only[Ab,I,Ac,aC,aA];refine Ok.bE (P:=fun v h3=>v=.ptr V 0/\Ext h2.lift h3) ⟨_,_,Ak9 ((dr.ext k2).ext fun i o g=>by rw[By];exact g),rfl,Ar.refl _⟩ (fun _ _ p=>p.2) ?_;rintro _ _ h3 ⟨rfl,_⟩ _ x3;have W:=x3.hb j;have k3:∀i o,h.get i=some o->h3.get i=some o:=fun i o g=>x3.at j (k2 i o g)
  refine Ok.bE (P:=fun v h4=>v=I n/\Ext h3.lift h4) ⟨_,_,At5 ((dr.dev.ext k3).ext fun i o g=>by rw[By];exact g),rfl,Ar.refl _⟩ (fun _ _ p=>p.2) ?_;rintro _ _ h4 ⟨rfl,_⟩ _ x4;have X:=x4.hb W;have k4:∀i o,h.get i=some o->h4.get i=some o:=fun i o g=>x4.at W (k3 i o g)
  have Y:Ext h2 h4:=x3.trans x4;have ax:=Y.at j U;simp only[Ab,Au,Cm l4,Cw ax rfl,Ak (show(gL g).length=6 from rfl)];refine Ok.bE (P:=fun v O=>v=I (g.D*g.Z)/\Ext h4.lift O) ⟨_,_,Oy s _,rfl,Ar.new _ _⟩ (fun _ _ p=>p.2) ?_;rintro _ _ O ⟨rfl,_⟩ _ x5;have aa:=x5.hb X;have k5:∀i o,h.get i=some o->O.get i=some o:=fun i o g=>x5.at X (k4 i o g)
  simp only[I,Ac,Zb];have ab:Ext h2 O:=Y.trans x5;by_cases hn:(n:Int)=g.D*g.Z
  ·simp only[hn,aC,aA,Ab,Ac]
   refine Ok.bE (P:=fun v h6=>v=.ptr V 0/\Ext O.lift h6) ⟨_,_,Ak9 ((dr.ext k5).ext fun i o g=>by rw[By];exact g),rfl,Ar.refl _⟩ (fun _ _ p=>p.2) ?_;rintro _ _ h6 ⟨rfl,_⟩ _ x6;have a0:=x6.hb aa;have k6:∀i o,h.get i=some o->h6.get i=some o:=fun i o g=>x6.at aa (k5 i o g)
   refine Ok.bE (P:=fun v J=>v=I size/\Ext h6.lift J) ⟨_,_,Au9 ((dr.dev.ext k6).ext fun i o g=>by rw[By];exact g),rfl,Ar.refl _⟩ (fun _ _ p=>p.2) ?_;rintro _ _ J ⟨rfl,_⟩ _ x7;have a1:=x7.hb a0;have y:Ext h2 J:=ab.trans (x6.trans x7);have ad:=y.at j U;simp only[Ab,Au,Cm l4,Cs ad rfl,gL,I,Ac];by_cases hs:size=g.S
   ·subst hs
    simp only[aC,aA,Qa,Aqb,Ab];have a2:=y.at j aq;have a3:h.next<J.next:=aK l4 y.next
    have a4:h.next+1<J.next:=aK l5 y.next
    simp only[Ab,Au,Cm a3,Cm a4,Cw ad rfl,Cw a2 rfl,Ak (show(gL g).length=6 from rfl),Ak Qx];refine Ok.bE (P:=fun v f=>v=I (g.D*g.Z)/\Ext J.lift f) ⟨_,_,Oy s _,rfl,Ar.new _ _⟩ (fun _ _ p=>p.2) ?_;rintro _ _ f ⟨rfl,_⟩ _ x8;have bw:=x8.hb a1;have L:Ext h2 f:=y.trans x8;simp only[Ab,Au,I];rw[<-hn];have a5:Uu [.int .i64 0] 3 (.int .i64 (n:Int)) (.int .i64 (n:Int)) f=some (.slice f.next 0 n n false,f.new (.cells (rep [.int .i64 0] n) 3)):=by
     show Ba (Nat.ble n n) (Ba (Nat.ble n 65536) _ none) none=_;rw[aQ (aE n),Aj,aQ (by omega),Aj]
    rw[a5,As,Ax (l:=Aao D g p f.next n (-1) (-1) 0) (by kernel_rfl)];simp only[Ab,Au];have ae:Ext f ((f.new (.cells (rep [.int .i64 0] n) 3)).new (.cells (Aao D g p f.next n (-1) (-1) 0) 111)):=(Ar.new _ _).Df _;have G:Ext h ((f.new (.cells (rep [.int .i64 0] n) 3)).new (.cells (Aao D g p f.next n (-1) (-1) 0) 111)):=(F.trans C).trans (L.trans ae);refine .ret ⟨G,G.hb hb,?_⟩;rw[aH (by first|exact⟨rfl,hn.symm,rfl⟩|simp[hn]|simp)];refine⟨f.next+1,p,f.next,ql,qq,c,rfl,⟨Ad _ _,?_⟩,P.ext fun i o g=>Ext.at (L.trans ae) j g,?_⟩
    ·rw[Aw _ (aL _),Ad,Bn3,Avd]
    ·have t1:=F.next
     have t2:=C.next
     have t3:=L.next
     exact⟨⟨by omega,by omega⟩,by omega,by omega,fun d hd=>by have:=nw.2.2 d hd;omega⟩
   ·have af:¬size=g.S:=hs
    simp only[af,aN,aB,Qa,Ab];have G:Ext h J:=(F.trans C).trans y;refine .ret ⟨G,G.hb hb,?_⟩;rw[aF (fun x=>af x.2.2.symm)]
  ·simp only[hn,aN,aB,Ab,Ac,Qa]
   have G:Ext h O:=(F.trans C).trans ab;refine .ret ⟨G,G.hb hb,?_⟩;rw[aF (fun x=>hn x.2.1.symm)]
end
section
section
variable{m p bl:Nat}{g:Gm}{u:Int}{bad:Nat->Int}(M:Aav h m D p bl n g a b u bad)
include M
theorem Wb:Ci K (.ptr m 0) h=some (.ptr p 0,h):=by simp only[Ci,Ab,M.Gl]
theorem Akx:Ch K (.ptr m 0) h=some (.ptr D 0,h):=by simp only[Ch,Ab,M.Dr]
theorem Azm:Ll K (.ptr m 0) h=some (.tuple [I a,I b,I u],h):=by simp only[Ll,Ab,M.oa,M.ob,M.ou]
theorem Ayl(hb:HB h):Ok (Ca K (.ptr m 0) h) fun v h'=>v=gV g/\Ext h h':=by
 simp only[Ca,Ab];have f:Aav (h.new (.cells [.int .i64 0,.int .i64 0,.int .i64 0,.int .i64 0,.int .i64 0,.int .i64 0] 23)) m D p bl n g a b u bad:=M.ext fun i o g=>Ext.at (Ar.new h _) hb g
 rw[f.A8l];refine Ok.st (gL g) (Ad _ _) rfl rfl rfl ?_;rw[Sx (Ae _ _ _) Bl4.1 Bl4.2 rfl];exact .ret ⟨rfl,(Ar.new h _:Ext _ _).Aq (.inr (aE _)) (aL _) _⟩
theorem Awj(hb:HB h):Ok (Ki K (.ptr m 0) h) fun v h'=>v=Vl/\Ext h h':=by
 simp only[Ki,Ab];have f:Aav (h.new (.cells (List.replicate 256 (.int .u32 0)) 96)) m D p bl n g a b u bad:=M.ext fun i o g=>Ext.at (Ar.new h _) hb g
 rw[f.table];refine Ok.st Bi (Ad _ _) rfl (by rw[show EV.cells Vl=Bi from rfl,Bc,Qx]) (by rw[show EV.cells Vl=Bi from rfl];exact Bk (by rw[Qx];simp)) ?_;rw[Sx (Ae _ _ _) Bp6.1 Bp6.2 Qx];exact .ret ⟨rfl,(Ar.new h _:Ext _ _).Aq (.inr (aE _)) (aL _) _⟩
end
end
section
section
variable{q c:Nat}(hq:h.get q=some (.cells [.chan c] 176))(hc:h.get c=some (.chan cap (xs.map I)))
include hq hc
theorem A2e(x:Int)(f:xs.length<cap):Gt K (.ptr q 0) (I x) h=some (I 0,h.put c (.chan cap ((xs++[x]).map I))):=by
 have hs:Ax2 (.chan c) (I x) h=some (.tuple [.int .i64 0,.bool false],h.put c (.chan cap ((xs++[x]).map I))):=by
  unfold Ax2;simp only[hc,Tq,bZ];rw[aQ f,Aj,cS];rfl
 simp only[Gt,Ab,Cs hq rfl,hs,Ac,aB]
theorem Bn4(x:Int)(f:cap<=xs.length):Gt K (.ptr q 0) (I x) h=some (I 17,h):=by
 have hs:Ax2 (.chan c) (I x) h=some (.tuple [.int .i64 (-1),.bool false],h):=by
  unfold Ax2;simp only[hc,Tq,bZ];rw[show Nat.ble (Nat.succ xs.length) cap=false from by
   cases hb:Nat.ble (Nat.succ xs.length) cap with
   | false=>rfl
   | true=>have:=bG hb;omega,Bl]
 simp only[Gt,Ab,Cs hq rfl,hs,Ac,show ¬((-1:Int)=0) by decide,aA]
theorem take_cons{r:List Int}(f:xs=x::r):Gb K (.ptr q 0) h=some (.tuple [I x,I 0],h.put c (.chan cap (r.map I))):=by
 subst f;have hs:Azj (.int .i64 0) (.chan c) h=some (.tuple [.int .i64 0,.bool true,I x],h.put c (.chan cap (r.map I))):=by
  unfold Azj;simp only[hc,dL]
 simp only[Gb,Ab,Cs hq rfl,hs,Ac,aB]
theorem take_nil(f:xs = []):Gb K (.ptr q 0) h=some (.tuple [I 0,I 15],h):=by
 subst f;have hs:Azj (.int .i64 0) (.chan c) h=some (.tuple [.int .i64 (-1),.bool false,.int .i64 0],h):=by
  unfold Azj;simp only[hc,List.map_nil]
 simp only[Gb,Ab,Cs hq rfl,hs,Ac,show ¬((-1:Int)=0) by decide,aA]
end
structure Listed(h0 h:Aa)(v:EV)(c cap:Nat)(xs:List Int)(q':Nat):Prop where
 row:Cj h v q' 3 1 xs.length (xs.map I)
 new:0<xs.length->h0.next<=q'
 chan:h.get c=some (.chan cap (xs.map I))
 chg:Ar (fun i=>i=c) h0 h
 hb:HB h
theorem Bep{q c:Nat}(A:h0.get q=some (.cells [.chan c] 176))(f:∃b,h0.get c=some (.chan cap b))(J:xs.length<=cap)(L:cap<=4096)(hb0:HB h0):∀(m j:Nat) (h:Aa) (s:EV) (q':Nat),xs.length-j<m->j<=xs.length ->
 Cj h s q' 3 1 xs.length (xs.map I)->(0<xs.length->h0.next<=q')->h.get c=some (.chan cap ((xs.take j).map I))->Ar (fun i=>i=c) h0 h->HB h ->
 Ok (H0 K m (.ptr q 0) s s (I xs.length) (I j) h) fun v h'=>∃q',Listed h0 h' v c cap xs q':=by
 obtain⟨b0,f⟩:=f;have F:q≠c:=Bb A f (by simp);have lc:=hb0 _ _ f;intro m;induction m with
 | zero=>intro j h s q' hm;omega
 | succ m O=>
  intro j h s q' hm hj row new hc x hb;simp only[H0,I,Ac,Ab];by_cases B:(j:Int)<xs.length
  ·have y:j<xs.length:=by omega
   have hq:h.get q=some (.cells [.chan c] 176):=Ar.at x hb0 A F;have C:=row.block (by omega);simp only[B,aB,Ab,Abr];rw[row.ix y,Cs C rfl,bW,bB,aD y,dc,Gx,A2e hq hc xs[j] (by rw[b9];omega),As];simp only[Acf,Ac];rw[Cq];have e:xs.take j++[xs[j]]=xs.take (j+1):=(dU y).symm;rw[e];have E:c<h.next:=aK lc x.next
   have G:q'≠c:=Bb C hc (by simp);exact O (j+1) _ s q' (by omega) (by omega) (row.frame fun _=>Af _ (cP G)) new (Ae _ _ _) (x.Aq (.inl rfl) E _) (hb.put E _)
  ·have:j=xs.length:=by omega
   subst this;simp only[B,aA,Ab,Tp];rw[cO]at hc;exact .ret ⟨q',row,new,hc,x,hb⟩
theorem Bfh{q c:Nat}(B:h0.get q=some (.cells [.chan c] 176))(f:∃b,h0.get c=some (.chan cap b))(C:xs.length<=cap)(L:cap<=4096)(hb0:HB h0)(hK:5000<K):∀(m j:Nat) (h:Aa) (s:EV) (q':Nat),xs.length-j<m->j<=xs.length ->
 Cj h s q' 3 1 j ((xs.take j).map I)->(0<j->h0.next<=q')->h.get c=some (.chan cap ((xs.drop j).map I))->Ar (fun i=>i=c) h0 h->HB h ->
 Ok (Hy K m (.ptr q 0) s (I xs.length) (I j) h) fun v h'=>∃q',Listed h0 h' v c cap xs q':=by
 have E:=f;obtain⟨b0,f⟩:=f;have O:q≠c:=Bb B f (by simp);have lc:=hb0 _ _ f;intro m;induction m with
 | zero=>intro j h s q' hm;omega
 | succ m Y=>
  intro j h s q' hm hj row new hc x hb;simp only[Hy,I,Ac,Ab];by_cases F:(j:Int)<xs.length
  ·have G:j<xs.length:=by omega
   have hq:h.get q=some (.cells [.chan c] 176):=Ar.at x hb0 B O;have e:xs.drop j=xs[j]::xs.drop (j+1):=cq G;have y:c<h.next:=aK lc x.next
   simp only[F,aB,Ab,Abz];rw[take_cons hq hc e];simp only[Ab,I,Ac,aB];have J:Cj (h.put c (.chan cap ((xs.drop (j+1)).map I))) s q' 3 1 j ((xs.take j).map I):=row.frame fun U=>Af _ (cP (Bb (row.block U) hc (by simp)))
   refine Nu (z:=[.int .i64 0]) J (hb.put y _) rfl rfl rfl (by omega) (by omega) ?_;intro h2 A n2 c2;have W:Ar (fun i=>i=c) h0 (h.put c (.chan cap ((xs.drop (j+1)).map I))):=x.Aq (.inl rfl) y _;have x3:Ar (fun i=>i=c) h0 h2:=W.then c2 fun i hi U=>by have:=new hi.1;omega
   simp only[Ab3,Ac];rw[Cq];have e2:(xs.take j).map I++EV.cells (.int .i64 xs[j])=(xs.take (j+1)).map I:=by
    rw[dU G,cS];rfl
   rw[e2]at A;refine Y (j+1) _ _ _ (by omega) (by omega) A (fun _=>by have:=W.next;omega) ?_ x3 (c2.hb (hb.put y _));rw[c2.get _ (by rw[Aa.Pr];exact y) (fun X=>by
    have:=row.block X.1;exact Bb this hc (by simp) X.2.symm)]
   exact Ae _ _ _
  ·have:j=xs.length:=by omega
   subst this;rw[cO]at row;simp only[F,aA,Ab,Ti];rw[row.H5];rw[List.drop_length]at hc;exact Bep B E C L hb0 K 0 h s q' (by omega) (by omega) row new hc x hb
theorem A0d{q c:Nat}(j:h0.get q=some (.cells [.chan c] 176))(f:h0.get c=some (.chan cap (xs.map I)))(y:xs.length<=cap)(A:cap<=4096)(hb0:HB h0)(hK:5000<K):
 Ok (Sy K (.ptr q 0) h0) fun v h'=>∃q',Listed h0 h' v c cap xs q':=by
 simp only[Sy,dr];rw[Atw j f,As,bZ];exact Bfh j ⟨_,f⟩ y A hb0 hK K 0 h0 .Ao 0 (by omega) (by omega) (.nil _ _ _ _) (fun x=>absurd x (bO _)) f (Ar.refl _) hb0
theorem Listed.same{c:Nat}{q':Nat}(l:Listed h0 h v c cap xs q')(hc:h0.get c=some (.chan cap (xs.map I))):∀i,i<h0.next->h.get i=h0.get i:=by
 intro i f;by_cases e:i=c
 ·subst e;rw[l.chan,hc]
 ·exact l.chg.get i f e
end
section
theorem Bqi:(E4 TT 29 0).2.1 = [9,10]:=by kernel_rfl
theorem Bp4:(E4 TT 113 0).2.1 = [19,20]:=by kernel_rfl
section
variable (H:Bv disp)
include H
theorem Bei(he:1<=e){z i:Int}(E:h.get l0=some (Av TT 29 14 0 tm .ready none d0))(t3:tmp tm 3=.ptr b3 0)(t4:tmp tm 4=.ptr b4 0)(U:h.get b3=some (.cells [I z] 3))(J:h.get b4=some (.cells [.bool false] 4))(hb:HB h):
 ∃h',Ag TT disp K (e+1) true l0 [I i,I x] h=some (.bool (decide (¬x=z)),h')/\h'.get l0=some (Av TT 29 14 0 tm (if x=z then .done else .ready) (if x=z then some .ret else none) d0)/\h'.get b4=some (.cells [.bool (decide (x=z))] 4)/\Ar (fun j=>j=l0\/j=b4) h h'/\HB h':=by
 have y:=E;unfold Av at y;rw[Bqi]at y;rw[Aon H he tm h (I i) (I x) y,t3,t4];have F:=hb _ _ E;have X:=hb _ _ J;have L:l0≠b3:=Bb E U (by simp[Av]);have f:l0≠b4:=Bb E J (by simp[Av]);simp only[Ajf,Yp E,Aam,dr];have G:(h.put l0 (Av TT 29 14 0 tm .busy none d0)).get b3=some (.cells [I z] 3):=by rw[Af _ L];exact U
 have A:(h.put l0 (Av TT 29 14 0 tm .busy none d0)).get b4=some (.cells [.bool false] 4):=by rw[Af _ f];exact J
 have B:(h.put l0 (Av TT 29 14 0 tm .busy none d0)).get l0=some (Av TT 29 14 0 tm .busy none d0):=Ae _ _ _;have O:Ar (fun j=>j=l0\/j=b4) h (h.put l0 (Av TT 29 14 0 tm .busy none d0)):=(Ar.refl h).Aq (.inl (.inl rfl)) F _;have C:HB (h.put l0 (Av TT 29 14 0 tm .busy none d0)):=hb.put F _;have Y:(h.put l0 (Av TT 29 14 0 tm .busy none d0)).next=h.next:=rfl
 generalize h.put l0 (Av TT 29 14 0 tm .busy none d0)=h1 at G A B O C Y⊢;simp only[Cs G rfl,Ab,I,Ac];by_cases W:x=z
 ·simp only[W,aB,Ab,aC,aA,bI]
  rw[Anp (o:=0) (n:=1) (v:=.bool true) (l':=[.bool true]) A rfl rfl rfl,Q6 (by rw[Af _ (cP f)];exact B)];exact⟨_,rfl,Ae _ _ _,by rw[Af _ f];exact Ae _ _ _,(O.Aq (.inl (.inr rfl)) (by omega) _).Aq (.inl (.inl rfl)) (by rw[Aa.Pr];omega) _,(C.put (by omega) _).put (by rw[Aa.Pr];omega) _⟩
 ·simp only[W,aA,Ab,aN,aB,ak]
  rw[Q6 B];exact⟨_,rfl,Ae _ _ _,by rw[Af _ f];exact A,O.Aq (.inl (.inl rfl)) (by omega) _,C.put (by omega) _⟩
theorem Bfm(he:2<=e){l1 d1 b5:Nat}{z i dd:Int}(X:h.get l0=some (Av TT 29 14 0 tm .ready none d0))(t3:tmp tm 3=.ptr b3 0)(t4:tmp tm 4=.ptr b4 0)(g3:h.get b3=some (.cells [I z] 3))(g4:h.get b4=some (.cells [.bool false] 4))
 (f:h.get l1=some (Av TT 113 27 0 tm1 .ready none d1)) (u2:tmp tm1 2=.ptr b2 0) (u3:tmp tm1 3=.ptr b5 0) (g2:h.get b2=some (.cells [.Uv l0] 153)) (g5:h.get b5=some (.cells [I dd] 3)) (hb:HB h) :
 ∃h',Ag TT disp K (e+1) true l1 [I i,I x] h=some (.bool (decide (¬x=z)),h')/\h'.get l0=some (Av TT 29 14 0 tm (if x=z then .done else .ready) (if x=z then some .ret else none) d0)/\h'.get l1=some (Av TT 113 27 0 tm1 (if x=z then .done else .ready) (if x=z then some .ret else none) d1) /\
  h'.get b4=some (.cells [.bool (decide (x=z))] 4)/\Ar (fun j=>j=l0\/j=b4\/j=l1) h h'/\HB h':=by
 obtain⟨e,rfl⟩:∃k,e=k+1:=⟨e-1,by omega⟩;have C:=f;unfold Av at C;rw[Bp4]at C;rw[Akh H (by omega) tm1 h (I i) (I x) C,u2,u3];have J:=hb _ _ f;have E:l1≠l0:=Bb f X (by simp[Av]);have A:∀b o,h.get b=some o->(∀st p,o≠Av TT 113 27 0 tm1 st p d1)->(h.put l1 (Av TT 113 27 0 tm1 .busy none d1)).get b=some o:=fun b o Y hn=>by
  rw[Af _ (Bb f Y (fun x=>hn _ _ x.symm))];exact Y
 simp only[Ado,Yp f,Xg,dr];have q0:=A _ _ X (by intros;simp[Av]);have q2:=A _ _ g2 (by intros;simp[Av]);have q3:=A _ _ g3 (by intros;simp[Av]);have O:=A _ _ g4 (by intros;simp[Av]);have q5:=A _ _ g5 (by intros;simp[Av]);have U:(h.put l1 (Av TT 113 27 0 tm1 .busy none d1)).get l1=some (Av TT 113 27 0 tm1 .busy none d1):=Ae _ _ _;have x1:Ar (fun j=>j=l0\/j=b4\/j=l1) h (h.put l1 (Av TT 113 27 0 tm1 .busy none d1)):=(Ar.refl h).Aq (.inl (.inr (.inr rfl))) J _;have F:HB (h.put l1 (Av TT 113 27 0 tm1 .busy none d1)):=hb.put J _;have n1:(h.put l1 (Av TT 113 27 0 tm1 .busy none d1)).next=h.next:=rfl
 generalize h.put l1 (Av TT 113 27 0 tm1 .busy none d1)=h1 at q0 U q2 q3 O q5 x1 F n1⊢;simp only[Cs q2 rfl,Cs q5 rfl,Ab];have hc:S7 (Ag TT disp K (e+1) false) (Ag TT disp K (e+1) true) (.Uv l0) [I dd,I x] h1=Ag TT disp K (e+1) true l0 [I dd,I x] h1:=rfl;rw[hc];obtain⟨h2,r1,L,G,W,r5⟩:=Bei (K:=K) H (e:=e) (by omega) (i:=dd) (x:=x) q0 t3 t4 q3 O F;rw[r1,As];have B:h2.get l1=some (Av TT 113 27 0 tm1 .busy none d1):=Ar.at W F U (fun y=>by
  rcases y with y|y
  ·exact E y
  ·exact Bb U O (by simp[Av]) y)
 have n2:=W.next
 have x2:Ar (fun j=>j=l0\/j=b4\/j=l1) h h2:=x1.trans (W.mono fun j hj=>hj.elim .inl (fun y=>.inr (.inl y)));by_cases hx:x=z
 ·simp only[hx,aC,aA,aB,bI]at L G⊢
  simp only[Ab];rw[Q6 B];refine⟨_,rfl,?_,Ae _ _ _,?_,x2.Aq (.inl (.inr (.inr rfl))) (by omega) _,r5.put (by omega) _⟩
  ·rw[Af _ E];exact L
  ·rw[Af _ (Bb B G (by simp[Av]))];exact G
 ·simp only[hx,aN,aA,aB,ak]at L G⊢
  simp only[Ab];rw[Q6 B];refine⟨_,rfl,?_,Ae _ _ _,?_,x2.Aq (.inl (.inr (.inr rfl))) (by omega) _,r5.put (by omega) _⟩
  ·rw[Af _ E];exact L
  ·rw[Af _ (Bb B G (by simp[Av]))];exact G
end
end
section
structure A9k(h:Aa)(l0 d0:Nat)(tm:Az)(b3 b4:Nat)(z:Int)(b2:Nat)(found:Bool):Prop where
 lp:h.get l0=some (Av TT 29 14 0 tm (if found then .done else .ready) (if found then some .ret else none) d0)
 c3:h.get b3=some (.cells [I z] 3)
 c4:h.get b4=some (.cells [.bool found] 4)
 c2:h.get b2=some (.cells [.Uv l0] 153)
 hb:HB h
structure Bir(tm:Az)(b3 b4:Nat):Prop where
 t3:tmp tm 3=.ptr b3 0
 t4:tmp tm 4=.ptr b4 0
section
variable (H:Bv disp){z:Int}(T0:Bir tm b3 b4){l1 d1:Nat}{b5:Nat}{dd:Int}(u2:tmp tm1 2=.ptr b2 0)(u3:tmp tm1 3=.ptr b5 0)
include H T0 u2 u3
theorem Be8(he:3<=e)(hn:xs.length<=4096):∀(m i:Nat) (h:Aa) (s:EV) (q':Nat),xs.length-i<m->i<=xs.length->A9k h l0 d0 tm b3 b4 z b2 false->h.get l1=some (Av TT 113 27 0 tm1 .ready none d1)->h.get b5=some (.cells [I dd] 3) ->
 Cj h s q' 3 1 xs.length (xs.map I)->(xs.take i).contains z=false ->
 Ok (Jo (Ag TT disp K e false) (Ag TT disp K e true) K m (.Uv l1) s (I xs.length) (I i) h) fun v h'=>v=.tuple []/\A9k h' l0 d0 tm b3 b4 z b2 (xs.contains z)/\h'.get l1=some (Av TT 113 27 0 tm1 (if xs.contains z then .done else .ready) (if xs.contains z then some .ret else none) d1)/\Ar (fun j=>j=l0\/j=b4\/j=l1) h h':=by
 intro m;induction m with
 | zero=>intro i h s q' hm;omega
 | succ m ih=>
  intro i h s q' hm hi L Y g5 row f;simp only[Jo,I,Ac,Ab];by_cases G:(i:Int)<xs.length
  ·have A:i<xs.length:=by omega
   have B:=row.block (by omega);simp only[G,aB,Ab,Aa4];rw[row.ix A,Cs B rfl,bW,bB,aD A,dc,Gx];obtain⟨e,rfl⟩:∃k,e=k+1:=⟨e-1,by omega⟩;have hc:S7 (Ag TT disp K (e+1) false) (Ag TT disp K (e+1) true) (.Uv l1) [I i,I xs[i]] h=Ag TT disp K (e+1) true l1 [I i,I xs[i]] h:=rfl;obtain⟨h2,r1,U,W,X,r5,r6⟩:=Bfm (K:=K) H (e:=e) (by omega) (i:=i) (x:=xs[i]) L.lp T0.t3 T0.t4 L.c3 L.c4 Y u2 u3 L.c2 g5 L.hb;have ab:∀k:EV->Aa->R,Ap (S7 (Ag TT disp K (e+1) false) (Ag TT disp K (e+1) true) (.Uv l1) [.int .i64 (i:Int),I xs[i]] h) k=k (.bool (decide (¬xs[i]=z))) h2:=fun k=>by
    have:S7 (Ag TT disp K (e+1) false) (Ag TT disp K (e+1) true) (.Uv l1) [.int .i64 (i:Int),I xs[i]] h=some (.bool (decide (¬xs[i]=z)),h2):=hc.trans r1;rw[this,As]
   rw[ab];have Ju:∀b o,h.get b=some o->(∀st p,o≠Av TT 29 14 0 tm st p d0)->(∀st p,o≠Av TT 113 27 0 tm1 st p d1)->(∀v,o≠.cells [v] 4)->h2.get b=some o:=fun b o C n0 n1 n4=>Ar.at r5 L.hb C fun y=>by
    rcases y with rfl|rfl|rfl
    ·rw[L.lp]at C;cases C;exact n0 _ _ rfl
    ·rw[L.c4]at C;cases C;exact n4 _ rfl
    ·rw[Y]at C;cases C;exact n1 _ _ rfl
   have k3:=Ju _ _ L.c3 (by intros;simp[Av]) (by intros;simp[Av]) (by intros;simp);have k2:=Ju _ _ L.c2 (by intros;simp[Av]) (by intros;simp[Av]) (by intros;simp);have k5:=Ju _ _ g5 (by intros;simp[Av]) (by intros;simp[Av]) (by intros;simp);by_cases F:xs[i]=z
   ·have J:xs.contains z=true:=by
     rw[List.contains_iff_mem,<-F];exact a9 A
    simp only[F,bI,aB]at U W X;simp only[F,aC,aA,Ab];exact .ret ⟨rfl,by rw[J];exact⟨U,k3,X,k2,r6⟩,by rw[J];exact W,r5⟩
   ·simp only[F,ak,aA]at U W X
    simp only[F,aN,aB,Ab,Aan,Ac];rw[Cq];have E:Cj h2 s q' 3 1 xs.length (xs.map I):=row.frame fun _=>by
     rw[Ju _ _ B (by intros;simp[Av]) (by intros;simp[Av]) (by intros;simp),B]
    have O:(xs.take (i+1)).contains z=false:=by
     rw[dU A];simp only[List.contains_eq_mem,bJ,aM,cZ]at f⊢;intro y;rcases y with y|y
     ·exact f y
     ·exact F y.symm
    refine(ih (i+1) h2 s q' (by omega) (by omega) ⟨U,k3,X,k2,r6⟩ W k5 E O).mono ?_;rintro v h' ⟨a1,a2,a3,a4⟩;exact⟨a1,a2,a3,r5.trans a4⟩
  ·have:i=xs.length:=by omega
   subst this;simp only[G,aA,Ab];rw[cO]at f;exact .ret ⟨rfl,by rw[f];exact L,by rw[f];exact Y,Ar.refl _⟩
theorem Blz(he:3<=e)(hK:5000<K){F q c:Nat}(J:h.get F=some (.cells [.ptr q 0] 124))(hq:h.get q=some (.cells [.chan c] 176))(hc:h.get c=some (.chan cap (xs.map I)))(B:xs.length<=cap)(C:cap<=4096)
 (L:A9k h l0 d0 tm b3 b4 z b2 false) (O:h.get l1=some (Av TT 113 27 0 tm1 .ready none d1)) (U:h.get b5=some (.cells [I dd] 3)) :
 Ok (Ag TT disp K (e+1) false 145 [.Uv l1,.ptr F 0] h) fun v h'=>A9k h' l0 d0 tm b3 b4 z b2 (xs.contains z)/\h'.get l1=some (Av TT 113 27 0 tm1 (if xs.contains z then .done else .ready) (if xs.contains z then some .ret else none) d1) /\
  (∀i,i<h.next->¬(i=l0\/i=b4\/i=l1)->h'.get i=h.get i)/\Ar (fun j=>j=c\/j=l0\/j=b4\/j=l1) h h':=by
 rw[Alu H (by omega)];simp only[Ag7,Cs J rfl,Ab];refine(A0d hq hc B C L.hb hK).Ap ?_;rintro s E ⟨q',y⟩;rw[y.row.H5];have same:=y.same hc;have f:∀i o,h.get i=some o->E.get i=some o:=fun i o g=>by rw[same i (L.hb _ _ g)];exact g
 have W:A9k E l0 d0 tm b3 b4 z b2 false:=⟨f _ _ L.lp,f _ _ L.c3,f _ _ L.c4,f _ _ L.c2,y.hb⟩;refine(Be8 (K:=K) H T0 u2 u3 he (by omega) K 0 E s q' (by omega) (by omega) W (f _ _ O) (f _ _ U) y.row (by simp)).mono ?_;rintro v h' ⟨_,X,Y,G⟩;refine⟨X,Y,fun i A hn=>by rw[G.get i (aK A y.chg.next) hn,same i A],?_⟩;exact(y.chg.mono fun i A=>.inl A).trans (G.mono fun i A=>.inr A)
end
end
section
def hasB(ps:Nat->List Int)(n:Nat)(z:Int):Bool:=(List.range n).any fun d=>(ps d).contains z
theorem Bew(ps:Nat->List Int)(n:Nat)(z:Int):hasB ps (n+1) z=(hasB ps n z||(ps n).contains z):=by
 unfold hasB;rw[cb,List.any_append];simp
theorem Is{z:Int}:hasB ps n z=true↔∃d,d<n/\z∈ps d:=by
 unfold hasB;simp
theorem Bll{z:Int}(hd:d<n)(h:(ps d).contains z=true):hasB ps n z=true:=Is.2 ⟨d,hd,List.contains_iff_mem.1 h⟩
structure Mid(h0 h:Aa)(C:Nat->Prop)(l0 d0:Nat)(tm:Az)(b3 b4:Nat)(z:Int)(b2:Nat)(found:Bool):Prop where
 kp:Kp C h0 h
 look:A9k h l0 d0 tm b3 b4 z b2 found
 cd:h.get d0=some (.deferred true)
 n0:h0.next<=l0
 n4:h0.next<=b4
 nd:h0.next<=d0
section
variable (H:Bv disp){p:Nat}{q c:Nat->Nat}{g:Gm}(P:Et h0 p ql n q c g ps)(hb0:HB h0)(hps:∀d,d<n->(ps d).length<=g.Z.toNat)(hZ:g.Z<=4096)(hn:n<=64)
variable{z:Int}(T0:Bir tm b3 b4)
include H P hb0 hps hZ hn T0
theorem Bih(he:4<=e)(hK:5000<K):∀(m i:Nat) (h:Aa) (t1:Az) (ds:List Nat),n-i<m->i<=n->Mid h0 h (fun x=>∃d,d<n/\x=c d) l0 d0 tm b3 b4 z b2 false->tmp t1 2=.ptr b2 0 ->
 ds.Nodup->(∀d∈ds,h.get d=some (.deferred true)/\h0.next<=d/\d≠d0)->hasB ps i z=false ->
 Ok (Lp (Ag TT disp K e false) (Ag TT disp K e true) K m t1 (.slice ql 0 n n true) (I n) (I i) h ds) fun v h'=>Mid h0 h' (fun x=>∃d,d<n/\x=c d) l0 d0 tm b3 b4 z b2 (hasB ps n z):=by
 intro m;induction m with
 | zero=>intro i h t1 ds hm;omega
 | succ m ih=>
  intro i h t1 ds hm hi M u2 af aa ag;have fin:∀(h2:Aa) (dl:List Nat) (found:Bool),found=hasB ps n z->Mid h0 h2 (fun x=>∃d,d<n/\x=c d) l0 d0 tm b3 b4 z b2 found->dl.Nodup->(∀d∈dl,h2.get d=some (.deferred true)/\h0.next<=d/\d≠d0) ->
   Ok (Fp dl h2 fun h=>some (EV.tuple [],h)) fun v h'=>Mid h0 h' (fun x=>∃d,d<n/\x=c d) l0 d0 tm b3 b4 z b2 (hasB ps n z):=by
   rintro h2 dl found rfl M2 a1 L;refine Ok.unwind a1 (fun d hd=>(L d hd).1) M2.look.hb fun h3 ch bu=>.ret ?_
   have nk:∀b o,h2.get b=some o->o≠.deferred true->¬(b∈dl):=fun b o F f hb=>by rw[(L b hb).1]at F;cases F;exact f rfl
   have a:∀b o,h2.get b=some o->o≠.deferred true->h3.get b=some o:=fun b o F f=>Ar.at ch M2.look.hb F (nk b o F f)
   refine⟨M2.kp.A3e ch fun i hi=>(L i hi).2.1,⟨a _ _ M2.look.lp (by simp[Av]),a _ _ M2.look.c3 (by simp),a _ _ M2.look.c4 (by simp),a _ _ M2.look.c2 (by simp),ch.hb M2.look.hb⟩,Ar.at ch M2.look.hb M2.cd (fun y=>(L _ y).2.2 rfl),M2.n0,M2.n4,M2.nd⟩
  simp only[Lp,I,Ac,Ab];by_cases ah:(i:Int)<n
  ·have A:i<n:=by omega
   have a2:∀b o,h0.get b=some o->h.get b=some o:=fun b o F=>M.kp.at hb0 F
   have P1:=P.ext a2;simp only[ah,aB,Ab,Ae9];rw[P1.rowAt.ix A,P1.A4x A]
   try simp only[Ab]
   refine Ok.st1 (Ad _ _) rfl rfl (by show 0<1;decide) ?_;have bx:=M.kp.chg.next
   have x1:Ext h ((h.new (.cells [.int .i64 0] 3)).put h.next (.cells [EV.int .i64 (i:Int)] 3)):=(Ar.new _ _:Ext h _).Aq (.inr (aE _)) (aL _) _;have g5:((h.new (.cells [.int .i64 0] 3)).put h.next (.cells [EV.int .i64 (i:Int)] 3)).get h.next=some (.cells [I i] 3):=Ae _ _ _
   simp only[List.set];generalize (h.new (.cells [.int .i64 0] 3)).put h.next (.cells [EV.int .i64 (i:Int)] 3)=W at x1 g5⊢
   have a5:=x1.hb M.look.hb;have bz:=x1.next
   simp only[Abl,Ab];have x2:Ext h (W.new (.cells [.ptr (q i) 0] 124)):=x1.Df _;have g6:(W.new (.cells [.ptr (q i) 0] 124)).get W.next=some (.cells [.ptr (q i) 0] 124):=Ad _ _
   have ai:(W.new (.cells [.ptr (q i) 0] 124)).get h.next=some (.cells [I i] 3):=by rw[Aw _ (a5 _ _ g5)];exact g5
   have n2:W.next<(W.new (.cells [.ptr (q i) 0] 124)).next:=aL _
   generalize W.new (.cells [.ptr (q i) 0] 124)=h2 at x2 g6 ai n2⊢;have a6:=x2.hb M.look.hb;generalize ad:(((((((t1.put 13 (some (EV.bool true))).put 14 (some (EV.int .i64 (i:Int)))).put 15 (some (EV.ptr ql (i*1)))).put 16 (some (EV.ptr (q i) 0))).put 3 (some (EV.ptr h.next 0))).put 4 (some (EV.ptr (q i) 0))).put 17 (some (EV.ptr (q i) 0))).put 18 (some (EV.func 145 [] [EV.ptr W.next 0]))=t2;have v2:tmp t2 2=.ptr b2 0:=by rw[<-ad];simp only[Ih,reduceIte,Nat.reduceEqDiff,u2]
   have v3:tmp t2 3=.ptr h.next 0:=by rw[<-ad];simp only[Ih,reduceIte,Nat.reduceEqDiff]
   have a7:∀w,tmp ((t2.put 26 (some w)).put 12 (some w)) 2=.ptr b2 0:=fun w=>by simp only[Ih,reduceIte,Nat.reduceEqDiff,v2]
   clear ad;refine Ok.range ?_;have x3:Ext h (Cd TT 113 27 0 t2 h2):=x2.trans Jf;have al:=x3.hb M.look.hb;have C:∀b o,h.get b=some o->(Cd TT 113 27 0 t2 h2).get b=some o:=fun b o F=>x3.at M.look.hb F
   have X:∀b o,h2.get b=some o->(Cd TT 113 27 0 t2 h2).get b=some o:=fun b o F=>Ext.at Jf a6 F
   have L3:A9k (Cd TT 113 27 0 t2 h2) l0 d0 tm b3 b4 z b2 false:=⟨C _ _ M.look.lp,C _ _ M.look.c3,C _ _ M.look.c4,C _ _ M.look.c2,al⟩;have P3:=P1.ext C;obtain⟨e,rfl⟩:∃k,e=k+1:=⟨e-1,by omega⟩;refine(Blz (K:=K) H T0 (l1:=h2.next+1) (d1:=h2.next) v2 v3 (e:=e) (by omega) hK (X _ _ g6) (P3.que i A) (P3.chan i A) (hps i A) (by omega) L3 Jn (X _ _ ai)).mono ?_;rintro v h4 ⟨L4,E,B,aq⟩;have b8:=aq.next
   have ca:h2.next+1<(Cd TT 113 27 0 t2 h2).next:=by rw[Ayb];omega
   have ba:Kp (fun x=>∃d,d<n/\x=c d) h0 h4:=by
    refine⟨(M.kp.chg.trans (Ext.to x3)).then aq ?_,fun j hj=>?_⟩
    ·rintro j (rfl|rfl|rfl|rfl) hl
     ·exact⟨i,A,rfl⟩
     ·have:=M.n0;omega
     ·have:=M.n4;omega
     ·have:=x2.next;omega
    ·have bb:j<(Cd TT 113 27 0 t2 h2).next:=by have:=x3.next;omega
     rw[B j bb (by rintro(rfl|rfl|rfl)<;>(have:=M.n0;have:=M.n4;have:=x2.next;omega)),x3.get j (by omega) id];exact M.kp.same j hj
   have bf:h4.get h2.next=some (.deferred true):=by
    rw[B _ (by omega) ?_]
    ·exact K9
    ·rintro(y|y|y)
     ·have:=M.look.hb _ _ M.look.lp;omega
     ·have:=M.look.hb _ _ M.look.c4;omega
     ·omega
   have G:∀d,h.get d=some (.deferred true)->h4.get d=some (.deferred true):=fun d gd=>by
    have au:=C _ _ gd;rw[B d (al _ _ au) ?_]
    ·exact au
    ·rintro(rfl|rfl|rfl)
     ·rw[M.look.lp]at gd;cases gd
     ·rw[M.look.c4]at gd;cases gd
     ·have:=M.look.hb _ _ gd;omega
   have bj:∀o,h4.get (h2.next+1)=some o->∀b o',h4.get b=some o'->(∀st p,o'≠Av TT 113 27 0 t2 st p h2.next)->b≠h2.next+1:=by
    intro o ho b o' J f e';subst e';rw[E]at J;cases J;exact f _ _ rfl
   have O:∀(p5:Option Code),Mid h0 (h4.put (h2.next+1) (Av TT 113 27 0 t2 .exhausted p5 h2.next)) (fun x=>∃d,d<n/\x=c d) l0 d0 tm b3 b4 z b2 ((ps i).contains z):=by
    intro p5;have aw:h2.next+1<h4.next:=by omega
    have pn:∀b o',h4.get b=some o'->(∀st p,o'≠Av TT 113 27 0 t2 st p h2.next)->(h4.put (h2.next+1) (Av TT 113 27 0 t2 .exhausted p5 h2.next)).get b=some o':=fun b o' J f=>by
     rw[Af _ (cP (bj _ E b o' J f))];exact J
    refine⟨ba.Aq (by have:=x2.next;omega) aw _,⟨pn _ _ L4.lp (by intros;simp[Av]),pn _ _ L4.c3 (by intros;simp[Av]),pn _ _ L4.c4 (by intros;simp[Av]),pn _ _ L4.c2 (by intros;simp[Av]),L4.hb.put aw _⟩,pn _ _ (G _ M.cd) (by intros;simp[Av]),M.n0,M.n4,M.nd⟩
   have Y:∀(p5:Option Code),∀d∈h2.next::ds,(h4.put (h2.next+1) (Av TT 113 27 0 t2 .exhausted p5 h2.next)).get d=some (.deferred true)/\h0.next<=d/\d≠d0:=by
    intro p5 d hd;rcases bS.1 hd with rfl|hd
    ·exact⟨by rw[Af _];exact bf,by have:=x2.next;omega,by have:=M.look.hb _ _ M.cd;omega⟩
    ·obtain⟨a,b,c'⟩:=aa d hd
     exact⟨by rw[Af _ (by have:=M.look.hb _ _ a;omega)];exact G _ a,b,c'⟩
   have ay:(h2.next::ds).Nodup:=cB.2 ⟨fun hd=>by have:=M.look.hb _ _ (aa _ hd).1;omega,af⟩;cases U:(ps i).contains z with
   | true=>
    rw[U]at E O;refine .inr ⟨E,?_⟩;exact fin _ _ true (Bll A U).symm (O _) ay (Y _)
   | false=>
    rw[U]at E O;refine .inl ⟨E,?_⟩;simp only[O4,Ac];rw[Cq];exact ih (i+1) _ _ _ (by omega) (by omega) (O _) (a7 _) ay (Y _) (by rw[Bew,ag,U];rfl)
  ·have:i=n:=by omega
   subst this;simp only[ah,aA,Ab];exact fin h ds false ag.symm M af aa
end
section
variable (H:Bv disp){p:Nat}{q c:Nat->Nat}{g:Gm}(P:Et h0 p ql n q c g ps)(hb0:HB h0)(hps:∀d,d<n->(ps d).length<=g.Z.toNat)(hZ:g.Z<=4096)(hn:n<=64)
include H P hb0 hps hZ hn
theorem Bgz(hd:7<=d)(hK:5000<K)(z:Int):Ok (Ag TT disp K d false 29 [.ptr p 0,I z] h0) fun v h'=>v=.bool (hasB ps n z)/\Kp (fun x=>∃d,d<n/\x=c d) h0 h'/\HB h':=by
 obtain⟨e,rfl⟩:∃k,d=k+2:=⟨d-2,by omega⟩;rw[Ar6 H (by omega)];simp only[Apt,I,Ab,Ahy];have x1:Ext h0 (((h0.new (.cells [.int .i64 z] 3)).new (.cells [.bool false] 4)).new (.cells [.ptr p 0] 57)):=((Ar.new _ _).Df _).Df _;have n1:(((h0.new (.cells [.int .i64 z] 3)).new (.cells [.bool false] 4)).new (.cells [.ptr p 0] 57)).next=h0.next+3:=rfl
 have C:(((h0.new (.cells [.int .i64 z] 3)).new (.cells [.bool false] 4)).new (.cells [.ptr p 0] 57)).get (h0.next+2)=some (.cells [.ptr p 0] 57):=Ad _ _;have g4:(((h0.new (.cells [.int .i64 z] 3)).new (.cells [.bool false] 4)).new (.cells [.ptr p 0] 57)).get (h0.next+1)=some (.cells [.bool false] 4):=by
  rw[Aw _ (aL _)];exact Ad _ _
 have g3:(((h0.new (.cells [.int .i64 z] 3)).new (.cells [.bool false] 4)).new (.cells [.ptr p 0] 57)).get h0.next=some (.cells [I z] 3):=by
  rw[Aw _ (show h0.next<h0.next+2 by omega),Aw _ (show h0.next<h0.next+1 by omega)];exact Ad _ _
 have ag:((h0.new (.cells [.int .i64 z] 3)).new (.cells [.bool false] 4)).next=h0.next+2:=rfl
 have ah:(h0.new (.cells [.int .i64 z] 3)).next=h0.next+1:=rfl
 rw[ag,ah];generalize ((h0.new (.cells [.int .i64 z] 3)).new (.cells [.bool false] 4)).new (.cells [.ptr p 0] 57)=f at x1 n1 C g4 g3⊢;have L:=x1.hb hb0;generalize O:(((((Tr.nil.put 0 (some (EV.ptr p 0))).put 1 (some (EV.int .i64 z))).put 3 (some (EV.ptr h0.next 0))).put 4 (some (EV.ptr (h0.next+1) 0))).put 7 (some (EV.ptr p 0))).put 8 (some (EV.func 113 [] [EV.ptr (h0.next+2) 0]))=tm;have T0:Bir tm h0.next (h0.next+1):=⟨by rw[<-O];simp only[Ih,reduceIte,Nat.reduceEqDiff],by rw[<-O];simp only[Ih,reduceIte,Nat.reduceEqDiff]⟩
 clear O;refine Ok.range ?_;rw[Apo H (by omega)];simp only[Alg,Ab];have x2:Ext f (Cd TT 29 14 0 tm f):=Jf;have Y:=x2.hb L;have ai:Sh 153 (.Uv (f.next+1)) (Cd TT 29 14 0 tm f)=fun(k:EV->Aa->R)=>k (.ptr (f.next+2) 0) ((Cd TT 29 14 0 tm f).new (.cells [.Uv (f.next+1)] 153)):=rfl
 rw[ai];have x3:Ext f ((Cd TT 29 14 0 tm f).new (.cells [.Uv (f.next+1)] 153)):=x2.Df _;have k2:((Cd TT 29 14 0 tm f).new (.cells [.Uv (f.next+1)] 153)).get (f.next+2)=some (.cells [.Uv (f.next+1)] 153):=Ad _ _;have kl:((Cd TT 29 14 0 tm f).new (.cells [.Uv (f.next+1)] 153)).get (f.next+1)=some (Av TT 29 14 0 tm .ready none f.next):=by rw[Aw _ (Y _ _ Jn)];exact Jn
 have kd:((Cd TT 29 14 0 tm f).new (.cells [.Uv (f.next+1)] 153)).get f.next=some (.deferred true):=by rw[Aw _ (Y _ _ K9)];exact K9
 generalize (Cd TT 29 14 0 tm f).new (.cells [.Uv (f.next+1)] 153)=h3 at x3 k2 kl kd⊢;have aj:=x3.hb L;have E:∀b o,f.get b=some o->h3.get b=some o:=fun b o C=>x3.at L C
 have P3:Et h3 p ql n q c g ps:=P.ext fun b o C=>E _ _ (x1.at hb0 C)
 simp only[Cs (E _ _ C) rfl,Ab,P3.list];have M3:Mid h0 h3 (fun x=>∃d,d<n/\x=c d) (f.next+1) f.next tm h0.next (h0.next+1) z (f.next+2) false:=
  ⟨Ext.kp (x1.trans x3),⟨kl,E _ _ g3,E _ _ g4,k2,aj⟩,kd,by omega,by omega,by omega⟩
 refine(Bih (K:=K) H P hb0 hps hZ hn T0 (e:=e) (by omega) hK K 0 h3 _ [] (by omega) (by omega) M3 (by simp only[Ih,reduceIte,Nat.reduceEqDiff]) dG (fun d hd=>by cases hd) rfl).mono ?_;rintro v h4 A;have aa:=A.look.hb _ _ A.look.lp;have nl:∀b o st G,h4.get b=some o->(∀st p,o≠Av TT 29 14 0 tm st p f.next)->(h4.put (f.next+1) (Av TT 29 14 0 tm st G f.next)).get b=some o:=fun b o st G C al=>by
  rw[Af _ (Bb A.look.lp C (fun y=>al _ _ y.symm))];exact C
 have J:∀st G,Kp (fun x=>∃d,d<n/\x=c d) h0 (h4.put (f.next+1) (Av TT 29 14 0 tm st G f.next)):=fun st G=>A.kp.Aq (by omega) aa _
 have F:∀st G,HB (h4.put (f.next+1) (Av TT 29 14 0 tm st G f.next)):=fun st G=>A.look.hb.put aa _
 have j:∀(B:Aa) (b:Bool),B.get (h0.next+1)=some (.cells [.bool b] 4)->It TT [.c (.ptr (h0.next+1) 0) 4] B=some (.bool b,B):=by
  intro B b hg;have hr:Ir B (h0.next+1) 0 1=some [.bool b]:=by unfold Ir;rw[hg];rfl
  unfold It;simp only[Awm,show TT.size 4=some 1 by kernel_rfl,show TT.agg 4=some false by kernel_rfl,hr]
 cases hf:hasB ps n z with
 | true=>
  rw[hf]at A;refine .inr ⟨A.look.lp,?_⟩;refine Ok.unwind (cB.2 ⟨by simp,dG⟩) (fun d hd=>by rw[aM]at hd;subst hd;exact nl _ _ _ _ A.cd (by intros;simp[Av])) (F _ _) fun B U ao=>?_
  have W:B.get (h0.next+1)=some (.cells [.bool true] 4):=Ar.at U (F _ _) (nl _ _ _ _ A.look.c4 (by intros;simp[Av])) (by simp;omega);rw[j B true W];exact .ret ⟨rfl,(J _ _).A3e U fun i hi=>by rw[aM]at hi;omega,U.hb (F _ _)⟩
 | false=>
  rw[hf]at A;refine .inl ⟨A.look.lp,?_⟩;simp only[Yv,dr];refine Ok.st1 (nl _ _ _ _ A.look.c4 (by intros;simp[Av])) rfl rfl (by show 0<1;decide) ?_;have ab:h0.next+1<(h4.put (f.next+1) (Av TT 29 14 0 tm .exhausted none f.next)).next:=A.look.hb _ _ A.look.c4
  have X:HB ((h4.put (f.next+1) (Av TT 29 14 0 tm .exhausted none f.next)).put (h0.next+1) (.cells ([EV.bool false].set 0 (.bool false)) 4)):=(F _ _).put ab _;refine Ok.unwind (cB.2 ⟨by simp,dG⟩) (fun d hd=>by rw[aM]at hd;subst hd;rw[Af _];exact nl _ _ _ _ A.cd (by intros;simp[Av])) X fun B U ao=>?_
  have W:B.get (h0.next+1)=some (.cells [.bool false] 4):=Ar.at U X (Ae _ _ _) (by simp;omega);rw[j B false W];exact .ret ⟨rfl,((J _ _).Aq (by omega) ab _).A3e U fun i hi=>by rw[aM]at hi;omega,U.hb X⟩
end
end
section
def Bo(g:Gm)(z:Int):Int:=if z<0\/g.D*g.Z<=z then -1 else z/g.Z
theorem Js {g:Gm}(s:Sm g)(z:Int)(G : -9223372036854775808<=z/\z<=9223372036854775807)(h:Aa):Ok (Ed K (gV g) (I z) h) fun v h'=>v=I (Bo g z)/\Ext h h':=by
 have:=s.d0;have:=s.d1;have:=s.z0;have:=s.z1;obtain⟨J,m1⟩:=Qi (a:=g.D) (b:=g.Z) (A:=8) (B:=64) (by omega) (by omega) (by omega) (by omega);simp only[Ed,gV,Ab,I,Ac];have C:(h.new (.cells (gL g) 23)).get h.next=some (.cells (gL g) 23):=Ad _ _
 have hn:h.next<(h.new (.cells (gL g) 23)).next:=aL _
 have y:Ext h (h.new (.cells (gL g) 23)):=Ar.new _ _;generalize h.new (.cells (gL g) 23)=E at C hn y⊢;unfold Bo;by_cases F:z<0
 ·simp only[F,aB,Ab,Ac,T1]
  exact .ret ⟨by rw[aH (.inl trivial)],y⟩
 ·simp only[F,aA,Ab,Ac,Cw C rfl,Ak (show(gL g).length=6 from rfl)]
  rw[show EV.agg (gL g)=gV g from rfl,Oy s,As];simp only[I,Ac,T1];by_cases h2:g.D*g.Z<=z
  ·simp only[h2,aB,Ab]
   exact .ret ⟨by rw[aH (.inr trivial)],y.Df _⟩
  ·have f:(E.new (.cells (gL g) 23)).get h.next=some (.cells (gL g) 23):=by rw[Aw _ hn];exact C
   have j:Ext h (E.new (.cells (gL g) 23)):=y.Df _;generalize E.new (.cells (gL g) 23)=hc at f j⊢;simp only[h2,aA,Ab,Ack,Cs f rfl,gL,I];rw[Bhm (by omega) (by omega) (by omega)];exact .ret ⟨by rw[aF (by rintro(x|x)<;>exact x)],j⟩
def upd(ps:Nat->List Int)(d:Nat)(l:List Int):Nat->List Int:=fun e=>if e=d then l else ps e
def As3(n:Nat)(c:Nat->Nat):Nat->Prop:=fun x=>∃d,d<n/\x=c d
def A3z:Dt->Prop
 | .chan ..=>False
 | _=>True
theorem Et.Bmn{p:Nat}{q c:Nat->Nat}{g:Gm}(P:Et h p ql n q c g ps){b:Nat}(f:h.get b=some o)(j:A3z o):¬As3 n c b:=by
 rintro⟨d,hd,rfl⟩;rw[P.chan d hd]at f;cases f;exact j
theorem Et.put{p:Nat}{q c:Nat->Nat}{g:Gm}(P:Et h p ql n q c g ps)(hd:d<n)(l:List Int):Et (h.put (c d) (.chan g.Z.toNat (l.map I))) p ql n q c g (upd ps d l):=by
 have ne:∀b o,h.get b=some o->A3z o->(h.put (c d) (.chan g.Z.toNat (l.map I))).get b=some o:=fun b o j y=>by
  rw[Af _ (fun e=>P.Bmn j y ⟨d,hd,e.symm⟩)];exact j
 refine⟨P.pos,ne _ _ P.Gl trivial,ne _ _ P.row trivial,fun e he=>ne _ _ (P.que e he) trivial,fun e he=>?_,P.inj⟩;unfold upd;by_cases f:e=d
 ·subst f;rw[aH rfl];exact Ae _ _ _
 ·rw[aF f,Af _ (fun x=>f (P.inj _ _ he hd x.symm))];exact P.chan e he
theorem Et.kp{p:Nat}{q c:Nat->Nat}{g:Gm}(P:Et h p ql n q c g ps)(hb:HB h)(k:Kp S h h'):Et h' p ql n q c g ps:=P.ext fun i o g=>k.at hb g
structure Rs(n:Nat)(g:Gm)(ps:Nat->List Int):Prop where
 nd:n=g.D.toNat
 sm:Sm g
 cap:∀d,d<n->(ps d).length<=g.Z.toNat
theorem Rs.bd{g:Gm}(z:Rs n g ps):n<=8/\g.Z<=64/\(n:Int)=g.D:=by
 have:=z.nd;have:=z.sm.d0;have:=z.sm.d1;have:=z.sm.z1;omega
theorem Rs.small{g:Gm}(z:Rs n g ps):A92 n ps:=by
 obtain⟨a,b,_⟩:=z.bd;exact⟨by omega,fun d hd=>by have:=z.cap d hd;omega⟩
theorem Rs.upd{g:Gm}(z:Rs n g ps){l:List Int}(f:l.length<=g.Z.toNat):Rs n g (upd ps d l):=
 ⟨z.nd,z.sm,fun e he=>by unfold Ev.upd;split;exact f;exact z.cap e he⟩
def U5(g:Gm)(n:Nat)(ps:Nat->List Int)(z:Int):Int × (Nat->List Int):=
 if Bo g z<0 then(13,ps)else if hasB ps n z then(16,ps)else
  if(ps (Bo g z).toNat).length<g.Z.toNat then(0,upd ps (Bo g z).toNat (ps (Bo g z).toNat++[z]))else(17,ps)
theorem I9 {g:Gm}(s:Sm g)(z:Int):Bo g z = -1\/(0<=Bo g z/\Bo g z<g.D/\Bo g z=z/g.Z/\0<=z/\z<g.D*g.Z):=by
 have:=s.z0;unfold Bo;split
 ·exact .inl rfl
 ·refine .inr ⟨Int.ediv_nonneg (by omega) (by omega),Int.ediv_lt_of_lt_mul (by omega) (by omega),rfl,by omega,by omega⟩
section
variable (H:Bv disp){p:Nat}{q c:Nat->Nat}{g:Gm}(P:Et h p ql n q c g ps)(hb:HB h)(Z:Rs n g ps)(hK:5000<K)
include P hb Z hK
theorem A4d(d:Int):Ok (Od K (.ptr p 0) (I d) h) fun v h'=>Ar (As3 n c) h h'/\HB h'/\∃x e ps',v=.tuple [I x,I e]/\Et h' p ql n q c g ps'/\Rs n g ps' /\
 ((d<0\/(n:Int)<=d)/\x=0/\e=13/\ps'=ps\/(0<=d/\d<n/\ps d.toNat = []/\x=0/\e=15/\ps'=ps)\/(0<=d/\d<n/\e=0/\∃r,ps d.toNat=x::r/\ps'=upd ps d.toNat r)):=by
 simp only[Od,I,Ac,Ab];by_cases j:d<0
 ·simp only[j,aB,Ab,Ac,Wh]
  exact .ret ⟨Ar.refl _,hb,0,13,ps,rfl,P,Z,.inl ⟨.inl trivial,rfl,rfl,rfl⟩⟩
 ·simp only[j,aA,Ab,Ac,P.list,Wh]
  by_cases h2:(n:Int)<=d
  ·simp only[h2,aB,Ab]
   exact .ret ⟨Ar.refl _,hb,0,13,ps,rfl,P,Z,.inl ⟨.inr trivial,rfl,rfl,rfl⟩⟩
  ·obtain⟨d,rfl⟩:=a8 (show 0<=d by omega)
   have hd:d<n:=by omega
   simp only[h2,aA,Ab,Afw,P.list];rw[P.rowAt.ix hd];simp only[P.A4x hd];cases f:ps d with
   | nil=>
    rw[take_nil (P.que _ hd) (P.chan _ hd) f];simp only[Ab];exact .ret ⟨Ar.refl _,hb,0,15,ps,rfl,P,Z,.inr (.inl ⟨by omega,by omega,f,rfl,rfl,rfl⟩)⟩
   | cons x r=>
    rw[take_cons (P.que _ hd) (P.chan _ hd) f];simp only[Ab];have lt:=hb _ _ (P.chan _ hd);refine .ret ⟨(Ar.refl h).Aq (.inl ⟨_,hd,rfl⟩) lt _,hb.put lt _,x,0,upd ps d r,rfl,P.put hd r,Z.upd ?_,.inr (.inr ⟨by omega,by omega,rfl,r,f,rfl⟩)⟩;have:=Z.cap _ hd;rw[f]at this;simp at this;omega
include H
theorem Bbj(hd:8<=d)(z:Int)(O : -9223372036854775808<=z/\z<=9223372036854775807):Ok (Ag TT disp K d false 56 [.ptr p 0,I z] h) fun v h'=>Ar (As3 n c) h h'/\HB h'/\v=I (U5 g n ps z).1/\Et h' p ql n q c g (U5 g n ps z).2/\Rs n g (U5 g n ps z).2:=by
 obtain⟨e,rfl⟩:∃k,d=k+1:=⟨d-1,by omega⟩;obtain⟨b1,b2,b3⟩:=Z.bd;rw[Arv H (by omega)];simp only[Ano,Ab,P.A8l];refine(Js Z.sm z O h).Ap ?_;rintro _ U ⟨rfl,C⟩;have A:=C.hb hb;have E:=P.ext fun i o g=>C.at hb g
 simp only[I,Ac];unfold U5;rcases I9 Z.sm z with F|⟨d0,d1,d2,d3,d4⟩
 ·rw[F]
  simp only[show(-1:Int)<0 by decide,aB,Ab,bI];exact .ret ⟨Ext.to C,A,rfl,E,Z⟩
 ·have G:¬Bo g z<0:=by omega
  simp only[G,aA,Ab,ak];refine(Bgz (K:=K) H E A Z.cap (by omega) (by omega) (d:=e) (by omega) hK z).Ap ?_;rintro _ h2 ⟨rfl,L,y⟩;have j:=E.kp A L;have B:Ar (As3 n c) h h2:=(Ext.to C).trans L.chg;cases W:hasB ps n z with
  | true=>
   simp only[Ab,bI];exact .ret ⟨B,y,rfl,j,Z⟩
  | false=>
   have f:(Bo g z).toNat<n:=by omega
   simp only[Ab,Ahg,j.list];rw[show Bo g z=((Bo g z).toNat:Int) by omega,j.rowAt.ix f];simp only[j.A4x f,bD];have lt:=y _ _ (j.chan _ f);by_cases J:(ps (Bo g z).toNat).length<g.Z.toNat
   ·rw[A2e (j.que _ f) (j.chan _ f) z J,As]
    rw[aH J];refine .ret ⟨B.Aq (.inl ⟨_,f,rfl⟩) lt _,y.put lt _,rfl,j.put f _,Z.upd ?_⟩;rw[aG];simp;omega
   ·rw[Bn4 (j.que _ f) (j.chan _ f) z (by omega),As]
    rw[aF J];exact .ret ⟨B,y,rfl,j,Z⟩
end
end
section
def O1(z:Int)(xs:List Int):List Int:=xs.filter fun x=>decide (¬x=z)
theorem Bf5(z x:Int)(r:List Int):O1 z (x::r)=(if x=z then[]else[x])++O1 z r:=by
 unfold O1;rw[eJ];by_cases h:x=z<;>simp[h]
theorem A9y(z:Int)(a b:List Int):O1 z (a++b)=O1 z a++O1 z b:=eO ..
theorem Bce(z:Int)(xs:List Int):(O1 z xs).length<=xs.length:=eP _ _
section
variable (H:Bv disp)(hK:5000<K)
include H hK
theorem Beb(he:1<=e){q c:Nat}{z:Int}(y:h0.get q=some (.cells [.chan c] 176))(f:∃b,h0.get c=some (.chan cap b))(F:h0.get b3=some (.cells [I z] 3))(ab:xs.length<=cap)(ae:cap<=4096)(hb0:HB h0):∀(m i:Nat) (h:Aa),xs.length-i<m->i<=xs.length ->
 h.get c=some (.chan cap ((xs.drop i++O1 z (xs.take i)).map I))->Ar (fun j=>j=c) h0 h->HB h ->
 Ok (Kq (Ag TT disp K e false) (Ag TT disp K e true) K m (.ptr q 0) (.func 192 [] [.ptr b3 0]) (I ((i:Int)-(O1 z (xs.take i)).length)) (I xs.length) (I i) h) fun v h'=>v=I ((xs.length:Int)-(O1 z xs).length)/\h'.get c=some (.chan cap ((O1 z xs).map I))/\Ar (fun j=>j=c) h0 h'/\HB h':=by
 obtain⟨b0,f⟩:=f;have G:q≠c:=Bb y f (by simp);have X:b3≠c:=Bb F f (by simp);have lc:=hb0 _ _ f;intro m;induction m with
 | zero=>intro i h hm;omega
 | succ m ih=>
  intro i h hm hi hc x hb;simp only[Kq,I,Ac,Ab];by_cases J:(i:Int)<xs.length
  ·have L:i<xs.length:=by omega
   have hq:h.get q=some (.cells [.chan c] 176):=Ar.at x hb0 y G;have O:c<h.next:=aK lc x.next
   have ed:xs.drop i=xs[i]::xs.drop (i+1):=cq L;have E:O1 z (xs.take (i+1))=O1 z (xs.take i)++(if xs[i]=z then[]else[xs[i]]):=by
    rw[dU L,A9y,Bf5];simp[O1]
   rw[ed,List.cons_append]at hc;have bl:=Bce z (xs.take i);rw[b9]at bl;simp only[J,aB,Ab,Acj];rw[take_cons hq hc rfl];simp only[Ab,I,Ac,aC,aA,Acw];have U:Ar (fun j=>j=c) h0 (h.put c (.chan cap ((xs.drop (i+1)++O1 z (xs.take i)).map I))):=x.Aq (.inl rfl) O _;have A:HB (h.put c (.chan cap ((xs.drop (i+1)++O1 z (xs.take i)).map I))):=hb.put O _;have B:(h.put c (.chan cap ((xs.drop (i+1)++O1 z (xs.take i)).map I))).get c=some (.chan cap ((xs.drop (i+1)++O1 z (xs.take i)).map I)):=Ae _ _ _;have Y:(h.put c (.chan cap ((xs.drop (i+1)++O1 z (xs.take i)).map I))).next=h.next:=rfl
   generalize h.put c (.chan cap ((xs.drop (i+1)++O1 z (xs.take i)).map I))=h2 at U A B Y⊢;have g3:h2.get b3=some (.cells [I z] 3):=Ar.at U hb0 F X;have C:S7 (Ag TT disp K e false) (Ag TT disp K e true) (.func 192 [] [.ptr b3 0]) [.int .i64 xs[i]] h2=some (.bool (decide (¬xs[i]=z)),h2):=by
    show Ag TT disp K e false 192 [.int .i64 xs[i],.ptr b3 0] h2=_;rw[Anv H he];simp only[Aia,Cs g3 rfl,Ab,I,Ac]
   rw[C,As];by_cases W:xs[i]=z
   ·rw[aH W,dE]at E
    simp only[W,aC,aA,Ab,Ac,N9];rw[Cq (n:=(i:Int)-(O1 z (xs.take i)).length+1) (by omega) (by omega),Cq (n:=(i:Int)+1) (by omega) (by omega)];have:=ih (i+1) h2 (by omega) (by omega) (by rw[E];exact B) U A;rw[E]at this;have e3:(i:Int)-(O1 z (xs.take i)).length+1=((i+1:Nat):Int)-(O1 z (xs.take i)).length:=by omega
    rw[e3];exact this
   ·rw[aF W]at E
    simp only[W,aN,aB,Ab,Ac,Abq];have aa:h2.get q=some (.cells [.chan c] 176):=Ar.at U hb0 y G;rw[show EV.int .i64 xs[i]=I xs[i]from rfl,A2e aa B xs[i] (by rw[aG,bT];omega),As];simp only[N9,Ac];rw[Cq (n:=(i:Int)+1) (by omega) (by omega)];have:=ih (i+1) (h2.put c (.chan cap ((xs.drop (i+1)++O1 z (xs.take i)++[xs[i]]).map I))) (by omega) (by omega) (by rw[E,<-cR];exact Ae _ _ _) (U.Aq (.inl rfl) (by omega) _) (A.put (by omega) _);rw[E,aG]at this;have e3:(i:Int)-(O1 z (xs.take i)).length=((i+1:Nat):Int)-((O1 z (xs.take i)).length+[xs[i]].length:Nat):=by simp;omega
    rw[e3];exact this
  ·have:i=xs.length:=by omega
   subst this;rw[List.drop_length,dQ,cO]at hc;rw[cO];simp only[J,aA,Ab,Tv];exact .ret ⟨rfl,hc,x,hb⟩
theorem Bm6{p:Nat}{q c:Nat->Nat}{g:Gm}(P:Et h p ql n q c g ps)(hb:HB h)(Z:Rs n g ps)(hd:4<=d)(z:Int)(hz : -9223372036854775808<=z/\z<=9223372036854775807):
 Ok (Ag TT disp K d false 162 [.ptr p 0,I z] h) fun v h'=>(∃e,v=I e)/\Ar (As3 n c) h h'/\HB h'/\Et h' p ql n q c g (if Bo g z<0 then ps else upd ps (Bo g z).toNat (O1 z (ps (Bo g z).toNat)))/\Rs n g (if Bo g z<0 then ps else upd ps (Bo g z).toNat (O1 z (ps (Bo g z).toNat))):=by
 obtain⟨e,rfl⟩:∃k,d=k+2:=⟨d-2,by omega⟩;obtain⟨b1,b2,b3⟩:=Z.bd;rw[Aq2 H (by omega)];simp only[Am1,I,Ab];obtain⟨h1,e_,U,W,n1⟩:=nW h (.cells [.int .i64 z] 3);rw[e_];have B:=U.hb hb;have X:=P.ext fun i o g=>U.at hb g
 have lp:=B _ _ X.Gl;have l3:=B _ _ W;simp only[Ab,Au,Cm lp,Cm l3,X.A8l,Cs W rfl];refine Ok.bE (Js Z.sm z hz _) (fun _ _ p=>p.2) ?_;rintro _ _ h2 ⟨rfl,_⟩ _ O;have C:=O.hb B;have A:=X.ext fun i o g=>O.at B g
 have F:=U.trans O;simp only[I,Ac];rcases I9 Z.sm z with Y|⟨d0,d1,d2,d3,d4⟩
 ·rw[Y]
  simp only[show(-1:Int)<0 by decide,aB,Ab,Ac,bI,Rc];exact .ret ⟨⟨15,rfl⟩,Ext.to F,C,A,Z⟩
 ·have G:¬Bo g z<0:=by omega
  simp only[G,aA,Ab,Ac,ak,A.list];generalize ao:Bo g z=dm at d0 d1 G;obtain⟨dn,rfl⟩:=a8 d0;have f:dn<n:=by omega
  rw[A.rowAt.ix f];simp only[A.A4x f,bD];rw[An4 H (by omega)];simp only[Ai6,dr];rw[A.len f,As];have J:=A.chan _ f;have:=Beb (K:=K) H hK (e:=e) (by omega) (z:=z) (xs:=ps dn) (A.que _ f) ⟨_,J⟩ (O.at B W) (Z.cap _ f) (by omega) C K 0 h2 (by have:=Z.cap _ f;omega) (by omega) (by rw[dF,List.take_zero,show O1 z [] = []from rfl,dE];exact J) (Ar.refl _) C;refine Ok.Ap (P:=fun v h'=>v=I (((ps dn).length:Int)-(O1 z (ps dn)).length)/\h'.get (c dn)=some (.chan g.Z.toNat ((O1 z (ps dn)).map I))/\Ar (fun j=>j=c dn) h2 h'/\HB h') this ?_;rintro _ h3 ⟨rfl,ab,x3,L⟩;simp only[Ac,I];have ch:Ar (As3 n c) h h3:=(Ext.to F).trans (x3.mono fun i hi=>⟨dn,f,hi⟩);have P3:Et h3 p ql n q c g (upd ps dn (O1 z (ps dn))):=by
   have ne:∀b o,h2.get b=some o->A3z o->h3.get b=some o:=fun b o gb ho=>Ar.at x3 C gb fun e=>A.Bmn gb ho ⟨dn,f,e⟩
   refine⟨A.pos,ne _ _ A.Gl trivial,ne _ _ A.row trivial,fun e he=>ne _ _ (A.que e he) trivial,fun e he=>?_,A.inj⟩;unfold upd;by_cases E:e=dn
   ·subst E;rw[aH rfl];exact ab
   ·rw[aF E];exact Ar.at x3 C (A.chan e he) fun y=>E (A.inj _ _ he f y)
  have Z3:Rs n g (upd ps dn (O1 z (ps dn))):=Z.upd (bN (Bce _ _) (Z.cap _ f));by_cases h0:((ps dn).length:Int)-(O1 z (ps dn)).length=0
  ·simp only[h0,aB,Rc,Ab]
   exact .ret ⟨⟨15,rfl⟩,ch,L,P3,Z3⟩
  ·simp only[h0,aA,Rc,Ab,Agc]
   exact .ret ⟨⟨0,rfl⟩,ch,L,P3,Z3⟩
end
theorem Aoz(ps:Nat->List Int)(b:Int):∀n,(D6 ps b n = -1/\∀d:Nat,d<n->(d:Int)=b)\/(0<=D6 ps b n/\D6 ps b n<n/\¬D6 ps b n=b/\∀d:Nat,d<n->(d:Int)=b\/(ps d).length<=(ps (D6 ps b n).toNat).length)
 | 0=>.inl ⟨rfl,fun d hd=>absurd hd (bm _)⟩
 | n+1=>by
  have B:=Aoz ps b n;rw[Aq5];unfold A7p;rcases B with⟨f,j⟩|⟨f,j,C,A⟩
  ·by_cases hb:(n:Int)=b
   ·rw[aF (fun x=>x.1 hb)]
    exact .inl ⟨f,fun d hd=>by rcases cI.1 hd with h|h;exact j d h;subst h;exact hb⟩
   ·rw[aH ⟨hb,.inl (by omega)⟩]
    refine .inr ⟨by omega,by omega,hb,fun d hd=>?_⟩;rcases cI.1 hd with h|h
    ·exact .inl (j d h)
    ·subst h;exact .inr (by simp)
  ·by_cases hc:¬(n:Int)=b/\(D6 ps b n<0\/(ps (D6 ps b n).toNat).length<(ps n).length)
   ·rw[aH hc]
    refine .inr ⟨by omega,by omega,hc.1,fun d hd=>?_⟩;rcases cI.1 hd with h|h
    ·rcases A d h with y|y
     ·exact .inl y
     ·refine .inr ?_
      rcases hc.2 with z|z
      ·omega
      ·simp only[bD];omega
    ·subst h;exact .inr (by simp)
   ·rw[aF hc]
    refine .inr ⟨f,by omega,C,fun d hd=>?_⟩;rcases cI.1 hd with h|h
    ·exact A d h
    ·subst h
     by_cases hb:(d:Int)=b
     ·exact .inl hb
     ·exact .inr (by have:¬(ps (D6 ps b d).toNat).length<(ps d).length:=fun y=>hc ⟨hb,.inr y⟩;omega)
theorem Bau{a:Nat}:∀n,(∀d,d<n->d=a\/ps d = [])->Nl ps n<=(ps a).length
 | 0,_=>by unfold Nl;simp
 | n+1,h=>by
  rw[Il];rcases h n (aL _)with e|e
  ·subst e
   have:Nl ps n=0:=by
    have:∀k,k<=n->Nl ps k=0:=by
     intro k j;induction k with
     | zero=>rfl
     | succ k f=>
      rw[Il,f (by omega)];rcases h k (by omega)with e|e
      ·omega
      ·rw[e];rfl
    exact this n (aE _)
   omega
  ·rw[e];have:=Bau (a:=a) n fun d hd=>h d (Nat.lt_succ_of_lt hd);simp;omega
theorem A1h(h:Fh ps n≠0)(hp:0<=Fh ps n):∃a b:Nat,D6 ps (-1) n=a/\D6 ps a n=b/\a<n/\b<n/\a≠b/\ps a≠[]/\ps b≠[]:=by
 have f:0<Fh ps n:=by omega
 unfold Fh at f;rw[Int.lt_min]at f;obtain⟨p1,J⟩:=f;rcases Aoz ps (-1) n with⟨L,C⟩|⟨L,C,_,O⟩
 ·have:n=0:=by
   cases n with
   | zero=>rfl
   | succ n=>have:=C 0 (by omega);omega
  subst this;unfold Nl at p1;simp at p1
 ·obtain⟨a,U⟩:=a8 L
  rw[U]at C O J;have E:a<n:=by omega
  have e1:Am0 ps n a=(ps a).length:=by unfold Am0;rw[aH (by omega)];rfl
  rw[e1]at J;have hex:∃d,d<n/\d≠a/\ps d≠[]:=by
   apply Classical.byContradiction;intro F;have:=Bau (ps:=ps) (a:=a) n fun d hd=>by
    by_cases A:d=a
    ·exact .inl A
    ·refine .inr (Classical.byContradiction fun j=>F ⟨d,hd,A,j⟩)
   omega
  obtain⟨d,hd,A,j⟩:=hex;have G:ps a≠[]:=fun e=>by
   rcases O d hd with y|y
   ·omega
   ·rw[bD,e]at y;exact j (cM.1 (by simpa using y))
  rcases Aoz ps a n with⟨b1,b2⟩|⟨b1,b2,b3,b4⟩
  ·have:=b2 d hd;omega
  ·obtain⟨b,B⟩:=a8 b1
   rw[B]at b2 b3 b4;refine⟨a,b,U,B,E,by omega,by omega,G,fun e=>?_⟩;rcases b4 d hd with y|y
   ·omega
   ·rw[bD,e]at y;exact j (cM.1 (by simpa using y))
theorem Ap5:0<=Fh ps n:=by
 unfold Fh;have:Am0 ps n (D6 ps (-1) n)<=Nl ps n:=by
  unfold Am0;split
  ·rename_i h
   have:∀m d,d<m->(ps d).length<=Nl ps m:=by
    intro m;induction m with
    | zero=>intro d hd;omega
    | succ m f=>
     intro d hd;rw[Il];rcases cI.1 hd with h|h
     ·have:=f d h;omega
     ·subst h;omega
   exact this n _ (by omega)
  ·omega
 omega
section
variable{p:Nat}{q c:Nat->Nat}{g:Gm}(P:Et h p ql n q c g ps)(hb:HB h)(Z:Rs n g ps)(hK:5000<K)
include P hb Z hK
theorem Bmz:Ok (W6 K (.ptr p 0) h) fun v h'=>Ar (As3 n c) h h'/\HB h'/\((Fh ps n=0/\v=.tuple [I 0,I 0,I 15]/\Et h' p ql n q c g ps) \/
 ∃(a b:Nat) (x y:Int) (r s:List Int),¬Fh ps n=0/\D6 ps (-1) n=a/\D6 ps a n=b/\a<n/\b<n/\a≠b/\ps a=x::r/\ps b=y::s/\v=.tuple [I x,I y,I 0]/\Et h' p ql n q c g (upd (upd ps a r) b s)/\Rs n g (upd (upd ps a r) b s)):=by
 obtain⟨b1,b2,b3⟩:=Z.bd;simp only[W6,dr];refine(A4w P hb Z.small (by omega)).Ap ?_;rintro _ h1 ⟨rfl,C⟩;have f:=C.hb hb;have E:=P.ext fun i o g=>C.at hb g
 simp only[I,Ac];by_cases hp:Fh ps n=0
 ·simp only[hp,aB,Ab]
  exact .ret ⟨Ext.to C,f,.inl ⟨trivial,rfl,E⟩⟩
 ·simp only[hp,aA,Ab,Ahe]
  obtain⟨a,b,ha,A,F,G,B,J,hb0⟩:=A1h hp Ap5;refine(Ard E f (by omega) (by omega) (-1)).Ap ?_;rintro _ h2 ⟨rfl,L⟩;have j:=L.hb f;have P2:=E.ext fun i o g=>L.at f g
  rw[ha];refine(Ard P2 j (by omega) (by omega) a).Ap ?_;rintro _ h3 ⟨rfl,O⟩;have U:=O.hb j;have P3:=P2.ext fun i o g=>O.at j g
  rw[A];refine(A4d P3 U Z hK a).Ap ?_;rintro _ h4 ⟨c4,W,x,e,ps',rfl,P4,Z4,X⟩;have hx:e=0/\∃r,ps a=x::r/\ps'=upd ps a r:=by
   rcases X with⟨y,_⟩|⟨_,_,y,_⟩|⟨_,_,y,z⟩
   ·omega
   ·rw[bD]at y;exact absurd y J
   ·rw[bD]at z;exact⟨y,z⟩
  obtain⟨rfl,r,Y,rfl⟩:=hx;simp only[Ab];refine(A4d P4 W Z4 hK b).Ap ?_;rintro _ h5 ⟨c5,aa,y,e,ps',rfl,P5,Z5,X⟩;have eb:upd ps a r b=ps b:=by unfold upd;rw[aF (cP B)]
  have hy:e=0/\∃s,ps b=y::s/\ps'=upd (upd ps a r) b s:=by
   rcases X with⟨w,_⟩|⟨_,_,w,_⟩|⟨_,_,w,z⟩
   ·omega
   ·rw[bD,eb]at w;exact absurd w hb0
   ·rw[bD,eb]at z;exact⟨w,z⟩
  obtain⟨rfl,s,ab,rfl⟩:=hy;simp only[Ab,I,Ac,aC,aA,Ahc];refine .ret ⟨(Ext.to (C.trans (L.trans O))).trans (c4.trans c5),aa,.inr ⟨a,b,x,y,r,s,not_false,rfl,A,F,G,B,Y,ab,rfl,P5,Z5⟩⟩
end
end
def Ks(st:Nat):Int:=if st=4 then 32 else if st=3 then 30 else 0
theorem Ahz{z q:Nat}{size:Int}{Z:Zn}(f:Fg h z q size Z):D5 K (.ptr z 0) h=some (I Z.st,h):=by
 obtain⟨s,g,_⟩:=f.Ah;simp only[D5,Ab,Cs g rfl]
theorem Xp{z q:Nat}{size:Int}{Z:Zn}(j:Fg h z q size Z):Dy K (.ptr z 0) h=some (I (Ks Z.st),h):=by
 obtain⟨s,g,_⟩:=j.Ah;simp only[Dy,Ab,Cs g rfl,I,Ac];unfold Ks;by_cases h4:Z.st=4
 ·have:decide ((Z.st:Int)=4)=true:=by simp[h4]
  rw[this,aH h4];simp only[Ab]
 ·have a:decide ((Z.st:Int)=4)=false:=by simp;omega
  rw[a,aF h4];simp only[Ab,Ac];by_cases f:Z.st=3
  ·have:decide ((Z.st:Int)=3)=true:=by simp[f]
   rw[this,aH f];simp only[Ab]
  ·have b:decide ((Z.st:Int)=3)=false:=by simp;omega
   rw[b,aF f];simp only[Ab,Ac,Mu]
theorem Fg.ext{z q:Nat}{size:Int}{Z:Zn}(d:Fg h z q size Z)(g:∀i o,h.get i=some o->h'.get i=some o):Fg h' z q size Z:=by
 obtain⟨s,a,b⟩:=d.Ah;exact⟨⟨s,g _ _ a,b.frame fun f=>by rw[g _ _ (b.block f),b.block f]⟩,d.wf⟩
def Zn.app(Z:Zn)(size:Nat)(x:List EV):Zn:=⟨Z.l++[x],Z.safe,if Z.l.length+1=size then 2 else 1,Z.fin⟩
theorem Ayy{z q size:Nat}{Z:Zn}(zz:Fg h z q size Z)(hb:HB h)(a1:Z.st<2)(O:Z.l.length<=64){x:List EV}(W:x.length=64):
 Ok (Dx K (.ptr z 0) (.agg x) h) fun v h'=>v=.tuple [I Z.l.length,I 0]/\(∃q',Fg h' z q' size (Z.app size x)/\h.next<=q')/\Ar (fun i=>i=z\/(0<Z.l.length/\i=q)) h h'/\HB h':=by
 obtain⟨s,g,r⟩:=zz.Ah;simp only[Dx,Ab];obtain⟨X,e_,Y,g3,n1⟩:=nW h (.cells x 30);rw[e_];have j:=Y.hb hb;have z1:Fg X z q size Z:=zz.ext fun i o g=>Y.at hb g
 have g1:=Y.at hb g;have r1:Cj X s q 30 64 Z.l.length Z.l.flatten:=r.frame fun O=>by rw[Y.at hb (r.block O),r.block O]
 rw[Xp z1,As];have hf:Ks Z.st=0:=by unfold Ks;rw[aF (by omega),aF (by omega)]
 rw[hf];have h2:¬(Z.st:Int)=2:=by omega
 simp only[Ac,I,aC,aA,Ab,Ht,Cs g1 rfl,h2,Ml];have lz:=j _ _ g1;have l3:=j _ _ g3;simp only[Ab,Au,Cm lz,Cm l3,Cs g1 rfl,Cw g3 rfl,Ak W];rw[Aa8 (z:=List.replicate 64 (.int .u8 0)) rfl (by simp) (by exact W) (by omega),As];obtain⟨f,e_,x2,gx,n2⟩:=nW X (.cells (EV.cells (.agg x)) 30);rw[e_];have C:=x2.hb j;have g2:=x2.at j g1;have r2:Cj f.lift s q 30 64 Z.l.length Z.l.flatten:=(r1.frame (h':=f) fun O=>by rw[x2.at j (r1.block O),r1.block O]).frame fun _=>By _ _
 obtain⟨h3,e3,r3,n3,c3⟩:=Yx (x:=.slice X.next 0 1 1 false) (n:=1) r2 rfl (by omega) (by omega) (by omega) (V6 (b:=X.next) (by rw[By];exact gx) W) (by rw[W]);refine Ok.bC (S:=fun i=>0<Z.l.length/\i=q) (P:=fun v h'=>v=.slice f.lift.next 0 (Z.l.length+1) (Z.l.length+1) true/\h'=h3) ⟨_,_,e3,rfl,rfl⟩ (fun _ _ p=>by rw[p.2];exact c3) ?_;rintro _ _ h4 s' ⟨rfl,rfl⟩ sm x4 al;have ab:=x4.hb C;rw[Ait]at r3 n3;rw[Ait];have ao:¬(0<Z.l.length/\z=q):=fun y=>by
  have:=r1.block y.1;exact Bb g1 this (by simp) y.2
 have g4:h4.get z=some (.cells [s,I size,I Z.safe,I Z.st,.bool Z.fin] 202):=Ar.at x4 C g2 ao;have r4:Cj h4 (.slice f.next 0 (Z.l.length+1) (Z.l.length+1) true) f.next 30 64 (Z.l.length+1) (Z.l.flatten++x):=r3.frame fun _=>sm.get _
 have A:z<h4.next:=ab _ _ g4
 try simp only[Ab]
 rw[J6 (by rcases al with rfl|⟨w,rfl,_⟩<;>kernel_rfl)];refine Ok.st1 g4 rfl rfl (by show 0<5;decide) ?_;refine Ok.st1 (Ae _ _ _) rfl rfl (by show 3<5;decide) ?_;simp only[List.set,Ab];have E:f.next≠z:=by have:=C _ _ g2;omega
 have F:z<((h4.put z (.cells [EV.slice f.next 0 (Z.l.length+1) (Z.l.length+1) true,I size,I Z.safe,I Z.st,.bool Z.fin] 202)).put z (.cells [EV.slice f.next 0 (Z.l.length+1) (Z.l.length+1) true,I size,I Z.safe,.int .i64 1,.bool Z.fin] 202)).next:=A
 have hq:h.next<=f.next:=by omega
 have r5:∀o1 B,Cj ((h4.put z o1).put z B) (.slice f.next 0 (Z.l.length+1) (Z.l.length+1) true) f.next 30 64 (Z.l.length+1) (Z.l.flatten++x):=fun o1 B=>r4.frame fun _=>by rw[Af _ (cP E),Af _ (cP E)]
 have ch:∀o1 B,Ar (fun i=>i=z\/(0<Z.l.length/\i=q)) h ((h4.put z o1).put z B):=fun o1 B=>((((Ext.to (Y.trans x2)).trans (x4.mono fun i hi=>.inr hi)).Aq (.inl (.inl rfl)) A _).Aq (.inl (.inl rfl)) A _)
 have aq:∀o1 B,HB ((h4.put z o1).put z B):=fun o1 B=>(ab.put A _).put A _
 have gz:((h4.put z (.cells [EV.slice f.next 0 (Z.l.length+1) (Z.l.length+1) true,I size,I Z.safe,I Z.st,.bool Z.fin] 202)).put z (.cells [EV.slice f.next 0 (Z.l.length+1) (Z.l.length+1) true,I size,I Z.safe,.int .i64 1,.bool Z.fin] 202)).get z=some (.cells [EV.slice f.next 0 (Z.l.length+1) (Z.l.length+1) true,I size,I Z.safe,.int .i64 1,.bool Z.fin] 202):=Ae _ _ _;have G:=r5 (.cells [EV.slice f.next 0 (Z.l.length+1) (Z.l.length+1) true,I size,I Z.safe,I Z.st,.bool Z.fin] 202) (.cells [EV.slice f.next 0 (Z.l.length+1) (Z.l.length+1) true,I size,I Z.safe,.int .i64 1,.bool Z.fin] 202);have J:=ch (.cells [EV.slice f.next 0 (Z.l.length+1) (Z.l.length+1) true,I size,I Z.safe,I Z.st,.bool Z.fin] 202) (.cells [EV.slice f.next 0 (Z.l.length+1) (Z.l.length+1) true,I size,I Z.safe,.int .i64 1,.bool Z.fin] 202);have L:=aq (.cells [EV.slice f.next 0 (Z.l.length+1) (Z.l.length+1) true,I size,I Z.safe,I Z.st,.bool Z.fin] 202) (.cells [EV.slice f.next 0 (Z.l.length+1) (Z.l.length+1) true,I size,I Z.safe,.int .i64 1,.bool Z.fin] 202);generalize (h4.put z (.cells [EV.slice f.next 0 (Z.l.length+1) (Z.l.length+1) true,I size,I Z.safe,I Z.st,.bool Z.fin] 202)).put z (.cells [EV.slice f.next 0 (Z.l.length+1) (Z.l.length+1) true,I size,I Z.safe,.int .i64 1,.bool Z.fin] 202)=h5 at gz G J L F⊢;simp only[Cs gz rfl,Ab,I,Ac];have fin:∀(st:Nat) (U:Aa),st=(Z.app size x).st->U.get z=some (.cells [EV.slice f.next 0 (Z.l.length+1) (Z.l.length+1) true,I size,I Z.safe,I st,.bool Z.fin] 202)->Cj U (.slice f.next 0 (Z.l.length+1) (Z.l.length+1) true) f.next 30 64 (Z.l.length+1) (Z.l.flatten++x)->Ar (fun i=>i=z\/(0<Z.l.length/\i=q)) h U->HB U ->
  Ok (Hn K (.ptr z 0) U) fun v h'=>v=.tuple [I Z.l.length,I 0]/\(∃q',Fg h' z q' size (Z.app size x)/\h.next<=q')/\Ar (fun i=>i=z\/(0<Z.l.length/\i=q)) h h'/\HB h':=by
  rintro st U rfl g6 r6 c6 au;simp only[Hn,Ab,Cs g6 rfl,I,Ac];rw[Cq,show((Z.l.length+1:Nat):Int)-1=(Z.l.length:Int) by omega];refine .ret ⟨rfl,⟨f.next,⟨⟨_,g6,?_⟩,fun y hy=>by
   rcases bJ.1 hy with hy|hy
   ·exact zz.wf y hy
   ·rw[aM.1 hy];exact W⟩,hq⟩,c6,au⟩
  have e1:(Z.app size x).l.length=Z.l.length+1:=by simp[Zn.app]
  have e2:(Z.app size x).l.flatten=Z.l.flatten++x:=by simp[Zn.app]
  rw[e1,e2];exact r6
 by_cases hs:Z.l.length+1=size
 ·have:((Z.l.length+1:Nat):Int)=(size:Int):=by omega
  simp only[this,aB,Ab];refine Ok.st1 gz rfl rfl (by show 3<5;decide) ?_;refine fin 2 _ (by simp[Zn.app,hs]) (Ae _ _ _) (G.frame fun _=>Af _ (cP E)) (J.Aq (.inl (.inl rfl)) F _) (L.put F _)
 ·have:¬((Z.l.length+1:Nat):Int)=(size:Int):=by omega
  simp only[this,aA,Ab];exact fin 1 _ (by simp[Zn.app,hs]) gz G J L
theorem Ayw{z q:Nat}{size:Int}{Z:Zn}(A:Fg h z q size Z)(hb:HB h)(B:2<=Z.st)(h4:Z.st<=4)(x:List EV):
 Ok (Dx K (.ptr z 0) (.agg x) h) fun v h'=>v=.tuple [I 0,I (if Z.st=2 then 17 else Ks Z.st)]/\Ext h h':=by
 simp only[Dx,Ab];obtain⟨C,E,f,_,_⟩:=nW h (.cells x 30);rw[E];have z1:Fg C z q size Z:=A.ext fun i o g=>f.at hb g
 rw[Xp z1,As];obtain⟨s,g,_⟩:=z1.Ah;by_cases h2:Z.st=2
 ·have j:Ks Z.st=0:=by unfold Ks;rw[aF (by omega),aF (by omega)]
  have y:(Z.st:Int)=2:=by omega
  rw[j];simp only[Ac,I,aC,aA,Ab,Ht,Cs g rfl,y,aB,h2,bI];exact .ret ⟨rfl,f⟩
 ·have j:¬Ks Z.st=0:=by
   unfold Ks;split
   ·decide
   ·split
    ·decide
    ·omega
  simp only[Ac,I,j,aN,aB,Ab,h2,ak];exact .ret ⟨rfl,f⟩
theorem Ff{l:List EV}(f:h.get i=some (.cells l t))(hs:TT.size t=some n)(j:TT.agg t=some true)(y:l.length=n):It TT [.c (.ptr i 0) t,.v v] h=some (.tuple [.agg l,v],h):=by
 have A:Ir h i 0 n=some l:=by
  unfold Ir;rw[f];simp only;rw[<-Agm];exact Ak y
 unfold It;simp only[Awm,hs,A,j]
theorem Awi:TT.size 30=some 64/\TT.agg 30=some true:=⟨by kernel_rfl,by kernel_rfl⟩
def T6:List EV:=List.replicate 64 (.int .u8 0)
theorem Kn:T6.length=64:=by simp[T6]
theorem Bhk:∀(l:List (List EV)) (j:Nat),(∀x∈l,x.length=64)->j<l.length->∃x,l[j]? = some x/\x.length=64/\Mo l.flatten (j*64) 64=some x:=by
 intro l;induction l with
 | nil=>intro j _ hj;cases hj
 | cons y l B=>
  intro j hw hj;have F:=hw y (aW ..);cases j with
  | zero=>
   refine⟨y,rfl,F,?_⟩;rw[br,E7 (by simp[F]),fS,dF,eV (by omega),bQ (by omega)]
  | succ j=>
   obtain⟨x,e1,e2,e3⟩:=B j (fun x f=>hw x (aR _ f)) (by simpa using hj);refine⟨x,by simpa using e1,e2,?_⟩;have G:j*64+64<=l.flatten.length:=by
    rcases cU l.flatten.length (j*64+64)with C|E
    ·rw[Agm]at e3
     exfalso;have:(l.flatten.drop (j*64)).length<64:=by rw[bT];omega
     revert e3;have hlen:l.flatten.length=l.length*64:=by
      clear B hj e1 C this;have A:∀x∈l,x.length=64:=fun x f=>hw x (aR _ f)
      clear hw;induction l with
      | nil=>rfl
      | cons a l B=>rw[br,aG,B fun x f=>A x (aR _ f),A a (aW ..),bF];omega
     have:j+1<=l.length:=by simp at hj;omega
     omega
    ·exact E
   rw[E7 G]at e3;rw[br,E7 (by rw[aG];omega),show(j+1)*64=y.length+j*64 by omega,List.drop_append,<-e3,dV (by omega),dQ];simp
def Ad9(Z:Zn)(off:Int):List EV × Int:=if Z.st=4 then(T6,32)else if 0<=off/\off<Z.l.length then((Z.l[off.toNat]?).getD T6,0)else(T6,31)
theorem Bd0 {Z:Zn}(wf:∀x∈Z.l,x.length=64)(off:Int):(Ad9 Z off).1.length=64:=by
 unfold Ad9;split
 ·exact Kn
 ·split
  ·rename_i hc
   have:off.toNat<Z.l.length:=by omega
   rw[aD this];exact wf _ (a9 _)
  ·exact Kn
theorem A2c{z q:Nat}{size:Int}{Z:Zn}(J:Fg h z q size Z)(hb:HB h)(off:Int):
 Ok (Hf K (.ptr z 0) (I off) h) fun v h'=>v=.tuple [.agg (Ad9 Z off).1,I (Ad9 Z off).2]/\Ext h h':=by
 simp only[Hf,Ab];have y:Ext h ((h.new (.cells (List.replicate 64 (.int .u8 0)) 30)).new (.cells (List.replicate 64 (.int .u8 0)) 30)):=(Ar.new _ _).Df _;have A:((h.new (.cells (List.replicate 64 (.int .u8 0)) 30)).new (.cells (List.replicate 64 (.int .u8 0)) 30)).get h.next=some (.cells T6 30):=by
  rw[Aw _ (aL _)];exact Ad _ _
 have f:((h.new (.cells (List.replicate 64 (.int .u8 0)) 30)).new (.cells (List.replicate 64 (.int .u8 0)) 30)).get (h.new (.cells (List.replicate 64 (.int .u8 0)) 30)).next=some (.cells T6 30):=Ad _ _
 generalize O:(h.new (.cells (List.replicate 64 (.int .u8 0)) 30)).next=W at f⊢
 generalize (h.new (.cells (List.replicate 64 (.int .u8 0)) 30)).new (.cells (List.replicate 64 (.int .u8 0)) 30)=B at y A f⊢;have C:=y.hb hb;have z1:Fg B z q size Z:=J.ext fun i o g=>y.at hb g
 obtain⟨s,g,r⟩:=z1.Ah;have U:=C _ _ A;have fin:∀(l:List EV) (e:Int),l.length=64->(l,e)=Ad9 Z off->Ok (stE 64 (.ptr h.next 0) (.agg l) B fun h=>It TT [.c (.ptr h.next 0) 30,.v (I e)] h) (fun v h'=>True)->True:=fun _ _ _ _ _=>trivial
 clear fin;have fin:∀(l:List EV) (e:Int) (E:Aa->R),(∀h',E h'=It TT [.c (.ptr h.next 0) 30,.v (I e)] h')->l.length=64->(l,e)=Ad9 Z off->Ok (stE 64 (.ptr h.next 0) (.agg l) B E) fun v h'=>v=.tuple [.agg (Ad9 Z off).1,I (Ad9 Z off).2]/\Ext h h':=by
  intro l e E F G he;refine Ok.st l A rfl (by rw[show EV.cells (.agg l)=l from rfl,Bc,G]) (Bk (by rw[Kn];exact G.symm)) ?_;rw[F,Ff (Ae _ _ _) Awi.1 Awi.2 G,<-he];exact .ret ⟨rfl,y.Aq (.inr (aE _)) U _⟩
 simp only[Cs g rfl,Ab,I,Ac,Cw f rfl,Ak Kn];by_cases h4:Z.st=4
 ·rw[show decide ((Z.st:Int)=4)=true by simp[h4]]
  simp only[Ab];exact fin T6 32 _ (fun _=>rfl) Kn (by unfold Ad9;rw[aH h4])
 ·rw[show decide ((Z.st:Int)=4)=false by simp;omega]
  simp only[Ab];by_cases h0:off<0
  ·simp only[h0,aB,Ab,Iw,Cw f rfl,Ak Kn]
   exact fin T6 31 _ (fun _=>rfl) Kn (by unfold Ad9;rw[aF h4,aF (by omega)])
  ·simp only[h0,aA,Ab,r.H5,Ac,Iw]
   by_cases L:(Z.l.length:Int)<=off
   ·simp only[L,aB,Ab,Cw f rfl,Ak Kn]
    exact fin T6 31 _ (fun _=>rfl) Kn (by unfold Ad9;rw[aF h4,aF (by omega)])
   ·simp only[L,aA,Ab,Oo,Cs g rfl]
    have hj:off.toNat<Z.l.length:=by omega
    obtain⟨j,rfl⟩:∃j:Nat,off=j:=⟨off.toNat,by omega⟩;rw[show(j:Int).toNat=j from rfl]at hj;obtain⟨x,f1,f2,f3⟩:=Bhk Z.l j J.wf hj;rw[r.ix hj];simp only[Cw (r.block (by omega)) rfl,f3,Ab];refine fin x 0 _ (fun _=>rfl) f2 ?_;unfold Ad9;rw[aF h4,aH (by omega),show(j:Int).toNat=j from rfl,f1];rfl
theorem Fg.put{z q:Nat}{size:Int}{Z:Zn}(f:Fg h z q size Z){s:EV}(g:h.get z=some (.cells [s,I size,I Z.safe,I Z.st,.bool Z.fin] 202))(safe st:Nat)(fin:Bool):
 Fg (h.put z (.cells [s,I size,I safe,I st,.bool fin] 202)) z q size ⟨Z.l,safe,st,fin⟩:=by
 obtain⟨s',j,r⟩:=f.Ah;rw[g]at j;have:s=s':=by
  have:=fW j;injection this with a _;exact(List.cons.inj a).1
 subst this;refine⟨⟨s,Ae _ _ _,r.frame fun y=>Af _ ?_⟩,f.wf⟩;exact Bb g (r.block y) (by simp)
def Zn.flush(Z:Zn):Zn:={ Z with safe:=Z.l.length }
theorem A0l{z q:Nat}{size:Int}{Z:Zn}(f:Fg h z q size Z)(hb:HB h):
 Ok (Gz K (.ptr z 0) h) fun v h'=>Fg h' z q size Z.flush/\Ar (fun i=>i=z) h h'/\HB h':=by
 obtain⟨s,g,r⟩:=f.Ah;have j:=hb _ _ g;simp only[Gz,Ab,Cs g rfl,r.H5];refine Ok.st1 g rfl rfl (by show 2<5;decide) ?_;refine .ret ⟨?_,(Ar.refl (S:=fun i=>i=z) h).Aq (.inl rfl) j _,hb.put j _⟩;exact f.put g Z.l.length Z.st Z.fin
def Zn.finish(Z:Zn):Zn:={ Z with st:=2,fin:=true }
theorem Ax0{z q:Nat}{size:Int}{Z:Zn}(f:Fg h z q size Z)(hb:HB h):
 Ok (Gk K (.ptr z 0) h) fun v h'=>v=I (Ks Z.st)/\Fg h' z q size (if Ks Z.st=0 then Z.finish else Z)/\Ar (fun i=>i=z) h h'/\HB h':=by
 obtain⟨s,g,r⟩:=f.Ah;have j:=hb _ _ g;simp only[Gk,Xp f,Ab,I,Ac];by_cases y:Ks Z.st=0
 ·simp only[y,aC,aA,Ab,bI,Nc]
  refine Ok.st1 g rfl rfl (by show 3<5;decide) ?_;refine Ok.st1 (Ae _ _ _) rfl rfl (by show 4<5;decide) ?_;refine .ret ⟨rfl,?_,((Ar.refl (S:=fun i=>i=z) h).Aq (.inl rfl) j _).Aq (.inl rfl) j _,(hb.put j _).put j _⟩;exact(f.put g Z.safe 2 Z.fin).put (Ae _ _ _) Z.safe 2 true
 ·simp only[y,aN,aB,Ab,ak]
  exact .ret ⟨rfl,f,Ar.refl _,hb⟩
def Zn.fail(Z:Zn)(st:Nat):Zn:=if st=4\/st=3/\¬Z.st=4 then { Z with st:=st }else Z
theorem A2v{z q:Nat}{size:Int}{Z:Zn}(f:Fg h z q size Z)(hb:HB h)(st:Nat):
 Ok (Hg K (.ptr z 0) (I st) h) fun v h'=>Fg h' z q size (Z.fail st)/\Ar (fun i=>i=z) h h'/\HB h':=by
 obtain⟨s,g,r⟩:=f.Ah;have j:=hb _ _ g;have yes:(st=4\/st=3/\¬Z.st=4)->Ok (stE 1 (.ptr z 3) (I st) h fun h=>some (.tuple [],h)) fun v h'=>Fg h' z q size (Z.fail st)/\Ar (fun i=>i=z) h h'/\HB h':=by
  intro hc;refine Ok.st1 g rfl rfl (by show 3<5;decide) ?_;refine .ret ⟨?_,(Ar.refl (S:=fun i=>i=z) h).Aq (.inl rfl) j _,hb.put j _⟩;unfold Zn.fail;rw[aH hc];exact f.put g Z.safe st Z.fin
 have no:¬(st=4\/st=3/\¬Z.st=4)->Ok (some (.tuple [],h)) fun v h'=>Fg h' z q size (Z.fail st)/\Ar (fun i=>i=z) h h'/\HB h':=by
  intro hc;refine .ret ⟨?_,Ar.refl _,hb⟩;unfold Zn.fail;rw[aF hc];exact f
 simp only[Hg,I,Ac,Ab];by_cases a:st=4
 ·rw[show decide ((st:Int)=4)=true by simp[a]]
  simp only[Ab,Ac,F4,Ef,Ei];exact yes (.inl a)
 ·rw[show decide ((st:Int)=4)=false by simp;omega]
  simp only[Ab,Ac];by_cases b:st=3
  ·rw[show decide ((st:Int)=3)=true by simp[b]]
   simp only[Ab,Ac,F4,Cs g rfl,I];by_cases c:Z.st=4
   ·rw[show decide (¬(Z.st:Int)=4)=false by simp[c]]
    simp only[Ab,Ac,Ef,Ei];exact no (by omega)
   ·rw[show decide (¬(Z.st:Int)=4)=true by simp;omega]
    simp only[Ab,Ac,Ef,Ei];exact yes (.inr ⟨b,c⟩)
  ·rw[show decide ((st:Int)=3)=false by simp;omega]
   simp only[Ab,Ac,F4,Ef,Ei];exact no (by omega)
theorem Wg{b sz:Nat}{x:EV}{new:List EV}(j:lenOf x=some n)(f:n<=65536)(hc:Oq h sz n x=some new)(hs:new.length=n*sz)(q:Nat):
 Ok (D9 e sz (.slice b 0 0 0 false) x h) fun v h'=>∃q',Cj h' v q' e sz n new/\Ext h h'/\(0<n->h.next<=q'):=by
 rcases dC n with rfl|hp
 ·have:new = []:=cM.1 (by omega)
  subst this;refine⟨.slice b 0 0 0 false,h,?_,q,.empty _ _ _ _ _,Ar.refl _,fun y=>by omega⟩;unfold D9;simp only[j,Gx];rfl
 ·obtain⟨h',e1,r,B,c⟩:=Yx (s:=.slice b 0 0 0 false) (q:=q) (e:=e) (.empty h b q e sz) j hp f (cQ _) hc hs
  refine⟨_,h',e1,h.next,?_,c.mono fun i A=>absurd A.1 (bO _),fun _=>aE _⟩;rw[dQ]at r;simpa only[bK]using r
end Go.Ev
