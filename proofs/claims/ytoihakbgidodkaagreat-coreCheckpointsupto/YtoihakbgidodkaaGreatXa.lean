import Derived.Test.YtoihakbgidodkaaGreatDa
set_option linter.all false
namespace Go.Ev
noncomputable section
open Go.Proofs
set_option maxRecDepth 100000
variable {k:EV->Ab->DX->R}{ex:Nat->Ab->List Nat->R}{h h' h0 h1 h2:Ab}{a op cnt gT:Int}{K V e i n t b2 b3 b4 d0 l0 q' qc qh ql zl cap:Nat}{o:Ds}{T:I5}{down:Bool}{ps:Nat->List Int}{v Fl cs hs happened:EV}{ms iR marks:List (EV × EV)}{x:List EV}{xs:List Int}{tm iH:Ba}{F G:Nat->Prop}{disp:Nat->Option FT}
section
def Au(T:I5)(g n i:Nat)(tm:Ba)(st:LoopState)(p:Option Code)(d:Nat):Ds:=.loop st p g n tm (Eb T g i).2.1 (Eb T g i).2.2.1 (Eb T g i).2.2.2 d
def Bn(T:I5)(g n i:Nat)(tm:Ba)(h:Ab):Ab:=(h.new (.deferred true)).new (Au T g n i tm .ready none h.next)
section
variable{g l d:Nat}{st:LoopState}{p:Option Code}{Q:EV->Ab->Prop}
theorem F3:(Bn T g n i tm h).get (h.next+1)=some (Au T g n i tm .ready none h.next):=Ad _ _
theorem Gw:(Bn T g n i tm h).get h.next=some (.deferred true):=by
 unfold Bn;rw[Az _ (aO _)];exact Ad _ _
theorem Ga:Ext h (Bn T g n i tm h):=(Aw.new _ _).Da _
theorem A16:(Bn T g n i tm h).next=h.next+2:=rfl
theorem T6 {kk:Ab->R}(f:h.get l=some (Au T g n i tm .ready p d)):Ez l h kk=kk (h.put l (Au T g n i tm .busy p d)):=by
 unfold Ez;rw[f];rfl
theorem Pf {b:Bool}{st':LoopState}{j:Option Code}(f:h.get l=some (Au T g n i tm st p d)):Wh l b st' j h=some (.bool b,h.put l (Au T g n i tm st' j d)):=by
 unfold Wh;rw[f];rfl
theorem Ok.range {c:Ah}{q:Nat}{f:List EV}{ds:List Nat}{k:Ab->List Nat->R}{ret:Ab->List Nat->R}
 (hc:Ok (c q (.U5 (h.next+1)::f) (Bn T g n i tm h)) fun _ h'=>
  (h'.get (h.next+1)=some (Au T g n i tm .ready none h.next)/\Ok (k (h'.put (h.next+1) (Au T g n i tm .exhausted none h.next)) (h.next::ds)) Q) \/
  (h'.get (h.next+1)=some (Au T g n i tm .done (some .ret) h.next)/\Ok (ret (h'.put (h.next+1) (Au T g n i tm .exhausted (some .ret) h.next)) (h.next::ds)) Q)) :
 Ok (P9 c T g n i (.func q [] f) tm h ds k ex ret) Q:=by
 obtain⟨v,h',e,j⟩:=hc;have:P9 c T g n i (.func q [] f) tm h ds k ex ret=ni (h.next+1) (c q (.U5 (h.next+1)::f) (Bn T g n i tm h)) (fun h'=>k h' (h.next::ds)) (fun id h'=>ex id h' (h.next::ds)) (fun h'=>ret h' (h.next::ds)):=rfl;rw[this,e];unfold ni;simp only;rcases j with⟨a,b⟩|⟨a,b⟩
 ·rw[a];exact b
 ·rw[a];exact b
theorem Ok.unwind:∀{ds:List Nat} {h:Ab} {k:Ab->R},ds.Nodup->(∀d∈ds,h.get d=some (.deferred true))->HB h->(∀h',Aw (fun i=>i∈ds) h h'->h'.next=h.next->Ok (k h') Q)->Ok (Dt ds h k) Q
 | [],h,k,_,_,_,j=>j h (Aw.refl _) rfl
 | d::ds,h,k,hn,hd,hb,j=>by
  obtain⟨A,B⟩:=cj.1 hn;have f:=hd d aW;have ld:=hb _ _ f;have e:Dt (d::ds) h k=Dt ds (h.put d (.deferred false)) k:=by
   show(match h.get d with|some (.deferred true)=>Dt ds (h.put d (.deferred false)) k|_=>none)=_;rw[f]
  rw[e];refine Ok.unwind B (fun x C=>?_) (hb.put ld _) fun h' c n=>j h' ?_ (by rw[n];rfl)
  ·rw[Ae _ (fun y=>A (by rw[y];exact C))];exact hd x (aV _ C)
  ·exact((Aw.refl h).Ao (S:=fun i=>i∈d::ds) (.inl aW) ld _).trans (c.mono fun i E=>aV _ E)
end
structure Kp(S:Nat->Prop)(h0 h:Ab):Prop where
 chg:Aw S h0 h
 same:∀i,i<h0.next->h.get i=h0.get i
theorem Kp.refl {S:Nat->Prop}(h:Ab):Kp S h h:=⟨Aw.refl _,fun _ _=>rfl⟩
theorem Ext.kp {S:Nat->Prop}(x:Ext h0 h):Kp S h0 h:=⟨Ext.to x,fun i f=>x.get i f id⟩
theorem Kp.trans {S:Nat->Prop}{a b c:Ab}(x:Kp S a b)(y:Kp S b c):Kp S a c:=⟨x.chg.trans y.chg,fun i f=>by rw[y.same i (aL f x.chg.next),x.same i f]⟩
theorem Kp.Ao {S:Nat->Prop}(x:Kp S h0 h)(f:h0.next<=i)(hn:i<h.next)(o:Ds):Kp S h0 (h.put i o):=
 ⟨x.chg.Ao (.inr f) hn o,fun j hj=>by rw[Ae _];exact x.same j hj⟩
theorem Kp.at {S:Nat->Prop}(x:Kp S h0 h)(hb:HB h0)(g:h0.get i=some o):h.get i=some o:=by rw[x.same i (hb _ _ g)];exact g
theorem Kp.tu {S T:Nat->Prop}{a b c:Ab}(x:Kp S a b)(y:Aw T b c)(st:∀i,T i->a.next<=i):Kp S a c:=
 ⟨x.chg.then y fun i f A=>by have:=st i f;omega,fun i f=>by rw[y.get i (aL f x.chg.next) fun j=>by have:=st i j;omega,x.same i f]⟩
end
section
structure Gm where
 D:Int
 Z:Int
 S:Int
 B:Int
 P:Int
 O:Int
def gL(g:Gm):List EV:=[I g.D,I g.Z,I g.S,I g.B,I g.P,I g.O]
def gV(g:Gm):EV:=.agg (gL g)
def Gm.parts(g:Gm):Int:=1+(g.B+1)/2
def Gm.nU(g:Gm):Int:=g.D*g.P+4
def Gm.least(g:Gm):Int:=min ((g.D-1)*(g.Z-g.P-2)-g.nU+1) (g.D*(g.Z-g.P-2)-2*g.nU+1)
def Gm.segments(g:Gm):Int:=g.least/2-1-g.D*g.P
def wi(n a b:Int):Bool:=decide (a<=n)&&decide (n<=b)
theorem J8 {n b:Int}:wi n a b=true↔a<=n/\n<=b:=by simp[wi]
def kq(g:Gm):Bool:=wi g.D 3 8&&wi g.Z 1 64&&wi g.S 4 64&&wi g.B 1 256&&wi g.P 0 4&&wi g.O 4 64
def rtB(g:Gm):Bool:=kq g&&(decide (g.parts<=g.S)&&decide (2*g.B<=g.S*g.segments))
structure Sm(g:Gm):Prop where
 d0:3<=g.D
 d1:g.D<=8
 z0:1<=g.Z
 z1:g.Z<=64
 s0:4<=g.S
 s1:g.S<=64
 b0:1<=g.B
 b1:g.B<=256
 p0:0<=g.P
 p1:g.P<=4
 o0:4<=g.O
 o1:g.O<=64
theorem Wk {g:Gm}(h:kq g=true):Sm g:=by
 simp only[kq,bD,J8]at h;exact⟨h.1.1.1.1.1.1,h.1.1.1.1.1.2,h.1.1.1.1.2.1,h.1.1.1.1.2.2,h.1.1.1.2.1,h.1.1.1.2.2,h.1.1.2.1,h.1.1.2.2,h.1.2.1,h.1.2.2,h.2.1,h.2.2⟩
theorem No {g:Gm}(h:rtB g=true):Sm g:=Wk (by unfold rtB at h;exact((bD _ _).mp h).1)
theorem Rp {b A B:Int}(h0:0<=a:=by omega)(h1:a<=A:=by omega)(h2:0<=b:=by omega)(f:b<=B:=by omega):0<=a*b/\a*b<=A*B:=
 ⟨Int.mul_nonneg h0 h2,Int.mul_le_mul h1 f h2 (Int.le_trans h0 h1)⟩
theorem vB {b A B:Int}(h0:0<=a:=by omega)(h1:a<=A:=by omega)(h2 : -B<=b:=by omega)(f:b<=B:=by omega)(j:0<=B:=by omega): -(A*B)<=a*b/\a*b<=A*B:=by
 have e1:a*b<=a*B:=eI f h0;have e2:a*B<=A*B:=Int.mul_le_mul_of_nonneg_right h1 j;have e3:a*(-B)<=a*b:=eI h2 h0;rw[Int.mul_neg]at e3;omega
theorem Bte{k:EV->R}:iA (bin T .shr t) (.int .i64 a) (.int .u64 1) k=k (.int .i64 (a/2)):=by
 cases a with
 | ofNat a=>
  show k (.int .i64 (.ofNat (Nat.shiftRight a 1)))=_;rw[show Nat.shiftRight a 1=a/2 from Nat.shiftRight_succ a 0];rfl
 | negSucc a=>
  show k (.int .i64 ((Int.negSucc a).fdiv (.ofNat 2)))=_;rw[fQ _ c_];rfl
theorem Bpw(a b:Int):j_ a b=decide (a<b):=by rw[<-xI,rj]
theorem min2{f:Array TypeId}{b:Int}:builtin T .min f [.int .i64 a,.int .i64 b] h=some (.int .i64 (min a b),h):=by
 simp only[builtin,hU,Bk,Bpw];rw[Bon];by_cases h1:b<a
 ·rw[aN h1,Int.min_eq_right a_]
 ·rw[aK h1,Int.min_eq_left a_]
theorem yY(n a b:Int)(h:Ab):Lt K (I n) (I a) (I b) h=some (.bool (wi n a b),h):=by
 simp only[Lt,HX,I,Ac,Br5];by_cases h1:a<=n
 ·simp only[h1,aB,Aj,dz,HO,wi,bF]
 ·simp only[h1,aA,Bk,dz,HO,wi,bB]
theorem A22(g:Gm)(h:Ab):Vp K (gV g) h=some (.bool (kq g),h.new (.cells (gL g) 23)):=by
 simp only[Vp,gV,Aa];have f:(h.new (.cells (gL g) 23)).get h.next=some (.cells (gL g) 23):=Ad _ _
 generalize h.new (.cells (gL g) 23)=h1 at f⊢;have w:=fun n a b=>yY (K:=K) n a b h1
 simp only[I]at w;simp only[Aa,Cy f rfl,gL,I,w,Ac];unfold kq;cases wi g.D 3 8 with
 | false=>simp only[Aa,Ac,Hi,Hf,Hm,He,Hh,bB]
 | true=>
 simp only[Aa,Cy f rfl,gL,I,w,Ac,Hi];cases wi g.Z 1 64 with
 | false=>simp only[Aa,Ac,Hi,Hf,Hm,He,Hh,bB,eO]
 | true=>
 simp only[Aa,Cy f rfl,gL,I,w,Ac,Hf];cases wi g.S 4 64 with
 | false=>simp only[Aa,Ac,Hi,Hf,Hm,He,Hh,bB,eO]
 | true=>
 simp only[Aa,Cy f rfl,gL,I,w,Ac,Hm];cases wi g.B 1 256 with
 | false=>simp only[Aa,Ac,Hi,Hf,Hm,He,Hh,bB,eO]
 | true=>
 simp only[Aa,Cy f rfl,gL,I,w,Ac,He];cases wi g.P 0 4 with
 | false=>simp only[Aa,Ac,Hi,Hf,Hm,He,Hh,bB,eO]
 | true=>
 simp only[Aa,Cy f rfl,gL,I,w,Ac,Hh,bF]
theorem tc {g:Gm}(s:Sm g)(h:Ab):I8 K (gV g) h=some (I g.parts,h.new (.cells (gL g) 23)):=by
 have:=s.b0;have:=s.b1;simp only[I8,gV,Aa];have f:(h.new (.cells (gL g) 23)).get h.next=some (.cells (gL g) 23):=Ad _ _
 generalize h.new (.cells (gL g) 23)=h1 at f⊢;simp only[Aa,Cy f rfl,gL,I,Ac];rw[Ci (n:=g.B+2),Ci (n:=g.B+2-1),ri a_ a_ a_];simp only[Ac];rw[Ci];rw[show 1+(g.B+2-1)/2=g.parts by unfold Gm.parts;rw[show g.B+2-1=g.B+1 from a_]]
theorem FU {g:Gm}(s:Sm g)(h:Ab):Od K (gV g) h=some (I g.nU,h.new (.cells (gL g) 23)):=by
 have:=s.d0;have:=s.d1;have:=s.p0;have:=s.p1;obtain⟨j,y⟩:=Rp (a:=g.D) (b:=g.P) (A:=8) (B:=4);simp only[Od,gV,Aa];have f:(h.new (.cells (gL g) 23)).get h.next=some (.cells (gL g) 23):=Ad _ _
 generalize h.new (.cells (gL g) 23)=h1 at f⊢;simp only[Aa,Cy f rfl,gL,I,Ac];rw[Ci (n:=g.D*g.P),Ci];rfl
theorem Ot {g:Gm}(s:Sm g)(h:Ab):Dd K (gV g) h=some (I (g.D*g.Z),h.new (.cells (gL g) 23)):=by
 have:=s.d0;have:=s.d1;have:=s.z0;have:=s.z1;obtain⟨j,y⟩:=Rp (a:=g.D) (b:=g.Z) (A:=8) (B:=64);simp only[Dd,gV,Aa];have f:(h.new (.cells (gL g) 23)).get h.next=some (.cells (gL g) 23):=Ad _ _
 generalize h.new (.cells (gL g) 23)=h1 at f⊢;simp only[Aa,Cy f rfl,gL,I,Ac];rw[Ci (n:=g.D*g.Z)]
theorem Sm.yZ {g:Gm}(s:Sm g):(0<=g.D*g.P/\g.D*g.P<=32)/\(-640<=(g.D-1)*(g.Z-g.P-2)/\(g.D-1)*(g.Z-g.P-2)<=640)/\(-640<=g.D*(g.Z-g.P-2)/\g.D*(g.Z-g.P-2)<=640):=by
 have:=s.d0;have:=s.d1;have:=s.p0;have:=s.p1;have:=s.z0;have:=s.z1;obtain⟨a0,f⟩:=Rp (a:=g.D) (b:=g.P) (A:=8) (B:=4);obtain⟨b0,b1⟩:=vB (a:=g.D-1) (b:=g.Z-g.P-2) (A:=10) (B:=64);obtain⟨j,c1⟩:=vB (a:=g.D) (b:=g.Z-g.P-2) (A:=10) (B:=64);omega
theorem Axi {g:Gm}(s:Sm g)(h:Ab):Ok (Qi K (gV g) h) fun v h'=>v=I g.segments/\Ext h h':=by
 obtain⟨⟨a0,L⟩,⟨b0,b1⟩,O,c1⟩:=s.yZ;have:=s.d0;have:=s.d1;have:=s.p0;have:=s.p1;have:=s.z0;have:=s.z1;simp only[Qi,gV,Aa];have j:(h.new (.cells (gL g) 23)).get h.next=some (.cells (gL g) 23):=Ad _ _
 have hn:h.next<(h.new (.cells (gL g) 23)).next:=aO _
 have y:Ext h (h.new (.cells (gL g) 23)):=Aw.new _ _;generalize h.new (.cells (gL g) 23)=h1 at j hn y⊢;simp only[Aa,Ar,Cj hn,Cy j rfl,Cv j rfl,Ai (show(gL g).length=6 from rfl),gL,I,Ac];rw[Ci (n:=g.Z-g.P),Ci (n:=g.Z-g.P-2)];refine Ok.bE (P:=fun v h2=>v=I g.nU/\Ext h1.lift h2) ⟨_,_,FU s _,rfl,Aw.new _ _⟩ (fun _ _ p=>p.2) ?_;rintro _ h2 B ⟨rfl,_⟩ _ A;have f:B.get h.next=some (.cells (gL g) 23):=by rw[A.get _ hn id];exact j
 simp only[Aa,Cy f rfl,gL,I,Ac];unfold Gm.nU;rw[Ci (n:=g.D-1),Ci (n:=(g.D-1)*(g.Z-g.P-2)),Ci (n:=(g.D-1)*(g.Z-g.P-2)-(g.D*g.P+4)),Ci (n:=(g.D-1)*(g.Z-g.P-2)-(g.D*g.P+4)+1),
  Ci (n:=g.D*(g.Z-g.P-2)),Ci (n:=2*(g.D*g.P+4)),Ci (n:=g.D*(g.Z-g.P-2)-2*(g.D*g.P+4)),Ci (n:=g.D*(g.Z-g.P-2)-2*(g.D*g.P+4)+1),
  min2,Aq,Bte]
 simp only[Ac,Aa,Cy f rfl,gL,I];have C:g.least=min ((g.D-1)*(g.Z-g.P-2)-(g.D*g.P+4)+1) (g.D*(g.Z-g.P-2)-2*(g.D*g.P+4)+1):=rfl;rw[<-C];have E : -10000<=g.least:=a_
 have J:g.least<=10000:=a_
 rw[Ci (n:=g.least/2-1),Ci (n:=g.D*g.P),Ci (n:=g.least/2-1-g.D*g.P)];exact .ret ⟨rfl,y.trans A⟩
end
theorem TG {g:Gm}(s:Sm g): -2000<=g.segments/\g.segments<=2000:=by
 obtain⟨⟨a0,f⟩,⟨b0,b1⟩,j,c1⟩:=s.yZ;have y:g.least=min ((g.D-1)*(g.Z-g.P-2)-(g.D*g.P+4)+1) (g.D*(g.Z-g.P-2)-2*(g.D*g.P+4)+1):=rfl;have hs:g.segments=g.least/2-1-g.D*g.P:=rfl;omega
theorem Vf(g:Gm)(h:Ab):Ok (Nr K (gV g) h) fun v h'=>v=.bool (rtB g)/\Ext h h':=by
 simp only[Nr,gV,Aa];have y:(h.new (.cells (gL g) 23)).get h.next=some (.cells (gL g) 23):=Ad _ _
 have hn:h.next<(h.new (.cells (gL g) 23)).next:=aO _
 have E:Ext h (h.new (.cells (gL g) 23)):=Aw.new _ _;generalize h.new (.cells (gL g) 23)=h1 at y hn E⊢;simp only[Aa,Ar,Cj hn,Cy y rfl,Cv y rfl,Ai (show(gL g).length=6 from rfl)];refine Ok.bE (P:=fun v h2=>v=.bool (kq g)/\Ext h1.lift h2) ⟨_,_,A22 g _,rfl,Aw.new _ _⟩ (fun _ _ p=>p.2) ?_;rintro _ h2 L ⟨rfl,_⟩ _ J;have C:L.get h.next=some (.cells (gL g) 23):=by rw[J.get _ hn id];exact y
 unfold rtB;cases hs:kq g with
 | false=>simp only[Aa,Ac,Qe,Mu,bB];exact .ret ⟨rfl,E.trans J⟩
 | true=>
 have s:=Wk hs;have:=s.b0;have:=s.b1;simp only[Aa,Ac,Ar,Cj hn,Cy C rfl,Cv C rfl,Ai (show(gL g).length=6 from rfl),bF];refine Ok.bE (P:=fun v h4=>v=I g.parts/\Ext L.lift h4) ⟨_,_,tc s _,rfl,Aw.new _ _⟩ (fun _ _ p=>p.2) ?_;rintro _ h4 U ⟨rfl,_⟩ _ W;have f:=J.trans W;have j:U.get h.next=some (.cells (gL g) 23):=by rw[f.get _ hn id];exact y
 simp only[Aa,Ac,Ar,Cj hn,Cy j rfl,gL,I,Qe];by_cases O:g.parts<=g.S
 ·simp only[O,aB,Aa,Ar,Cj hn,Cy j rfl,Cv j rfl,Ai (show(gL g).length=6 from rfl),gL,I,Ac,bF]
  refine Ok.bE (Axi s _) (fun _ _ p=>p.2) ?_;rintro _ Y h7 ⟨rfl,_⟩ _ X;obtain⟨t0,t1⟩:=TG s;have:=s.s0;have:=s.s1;obtain⟨m0,m1⟩:=vB (a:=g.S) (b:=g.segments) (A:=64) (B:=2000);simp only[Ac,I,Mu,Aa];rw[Ci (n:=2*g.B),Ci (n:=g.S*g.segments)];exact .ret ⟨rfl,E.trans (f.trans X)⟩
 ·simp only[O,aA,Aa,Ac,Mu,bB]
  exact .ret ⟨rfl,E.trans f⟩
theorem Bpe {n:Int}(h0 : -100000<=n)(h1:n<=100000)(h:Ab):Pg K (I n) h=some (I (n/2),h):=by
 simp only[Pg,I,Ac,Aa];by_cases hn:n<0
 ·simp only[hn,aB,Aa,Ac]
  rw[Ci,ri a_ a_ a_];simp only[Bku];rw[Ci,show 0-(1-n)/2=n/2 from a_]
 ·simp only[hn,aA,Aa,Y4]
  rw[ri a_ a_ a_]
theorem A9y {g:Gm}(s:Sm g){a:Nat}(j:h.get a=some (.cells (gL g) 92)):∀(m:Nat) (i:Int),0<=i->(g.B-i).toNat<m->i<=g.B+1->i%2=0 ->
 Gf K m (.ptr a 0) (I (1+i/2)) (I i) h=some (I g.parts,h):=by
 have:=s.b0;have:=s.b1;intro m;induction m with
 | zero=>intro i _ hm;omega
 | succ m y=>
  intro i C hm hle A;simp only[Gf,Aa,Ac,Cy j rfl,gL,I];by_cases f:i<g.B
  ·simp only[f,aB,Aa,Ac,Ug,Uj]
   rw[Ci (n:=1+i/2+1),Ci (n:=i+2),show 1+i/2+1=1+(i+2)/2 from a_];exact y (i+2) a_ a_ a_ a_
  ·simp only[f,aA,Aa,Ui]
   unfold Gm.parts;rw[show 1+i/2=1+(g.B+1)/2 from a_]
theorem Bge {g:Gm}(s:Sm g)(hK:1000<K)(h:Ab):Ln K (gV g) h=some (I g.parts,h.new (.cells (gL g) 92)):=by
 have:=s.b0;have:=s.b1;simp only[Ln,gV,Aa];exact A9y s (Ad _ _) K 0 a_ a_ a_ a_
theorem A4y {g:Gm}(s:Sm g)(h:Ab):Ok (Jc K (gV g) h) fun v h'=>v=I g.segments/\Ext h h':=by
 obtain⟨⟨a0,E⟩,⟨b0,b1⟩,J,c1⟩:=s.yZ;have:=s.d0;have:=s.d1;have:=s.p0;have:=s.p1;have:=s.z0;have:=s.z1;simp only[Jc,gV,Aa];have j:(h.new (.cells (gL g) 92)).get h.next=some (.cells (gL g) 92):=Ad _ _
 have hn:h.next<(h.new (.cells (gL g) 92)).next:=aO _
 have A:Ext h (h.new (.cells (gL g) 92)):=Aw.new _ _;generalize h.new (.cells (gL g) 92)=h1 at j hn A⊢;have L:g.least=min ((g.D-1)*(g.Z-g.P-2)-(g.D*g.P+4)+1) (g.D*(g.Z-g.P-2)-2*(g.D*g.P+4)+1):=rfl;have fin:∀n,n=g.least->Ok (Kx K (.ptr h.next 0) (I n) h1) fun v h'=>v=I g.segments/\Ext h h':=by
  rintro _ rfl;simp only[Kx,Aa];refine Ok.bE (P:=fun v h2=>v=I (g.least/2)/\Ext h1.lift h2) ⟨_,_,Bpe a_ a_ _,rfl,Aw.refl _⟩ (fun _ _ p=>p.2) ?_;rintro _ h2 C ⟨rfl,_⟩ _ B;have y:C.get h.next=some (.cells (gL g) 92):=by rw[B.get _ hn id];exact j
  simp only[Aa,Ar,Cj hn,Cy y rfl,gL,I,Ac];rw[Ci (n:=g.least/2-1),Ci (n:=g.D*g.P),Ci (n:=g.least/2-1-g.D*g.P)];exact .ret ⟨rfl,A.trans B⟩
 simp only[Aa,Cy j rfl,gL,I,Ac];rw[Ci (n:=g.Z-g.P),Ci (n:=g.Z-g.P-2),Ci (n:=g.D*g.P),Ci (n:=g.D*g.P+4),
  Ci (n:=g.D-1),Ci (n:=(g.D-1)*(g.Z-g.P-2)),Ci (n:=(g.D-1)*(g.Z-g.P-2)-(g.D*g.P+4)),Ci (n:=(g.D-1)*(g.Z-g.P-2)-(g.D*g.P+4)+1),
  Ci (n:=g.D*(g.Z-g.P-2)),Ci (n:=2*(g.D*g.P+4)),Ci (n:=g.D*(g.Z-g.P-2)-2*(g.D*g.P+4)),Ci (n:=g.D*(g.Z-g.P-2)-2*(g.D*g.P+4)+1)]
 by_cases f:g.D*(g.Z-g.P-2)-2*(g.D*g.P+4)+1<(g.D-1)*(g.Z-g.P-2)-(g.D*g.P+4)+1
 ·simp only[f,aB,Aa]
  exact fin _ a_
 ·simp only[f,aA,Aa]
  exact fin _ a_
theorem Bg1(g:Gm)(hK:1000<K)(h:Ab):Ok (H7 K (gV g) h) fun v h'=>v=.bool (rtB g)/\Ext h h':=by
 simp only[H7,gV,Aa];have j:(h.new (.cells (gL g) 92)).get h.next=some (.cells (gL g) 92):=Ad _ _
 have hn:h.next<(h.new (.cells (gL g) 92)).next:=aO _
 have C:Ext h (h.new (.cells (gL g) 92)):=Aw.new _ _;generalize h.new (.cells (gL g) 92)=h1 at j hn C⊢;have no:∀b,b=false->Ok (some (.bool false,h1)) fun v h'=>v=.bool (b&&(decide (g.parts<=g.S)&&decide (2*g.B<=g.S*g.segments)))/\Ext h h':=by
  rintro _ rfl;exact .ret ⟨by rw[bB],C⟩
 unfold rtB;have f:∀{p:Prop} [Decidable p],¬p->(kq g=true->p)->kq g=false:=fun E hq=>by
  cases hb:kq g with
  | false=>rfl
  | true=>exact absurd (hq hb) E
 simp only[Aa,Cy j rfl,gL,I,Ac];by_cases c1:g.D<3
 ·simp only[c1,aB,Aa,Ac,Im,F7,Es,Ed,Dq,C7,Cr,Ch,Cc,Bx,Bt]
  exact no _ (f (p:=¬g.D<3) (by simpa using c1) fun hb=>by have:=(Wk hb).d0;omega)
 simp only[c1,aA,Aa,Ac,Cy j rfl,gL,I,Im];by_cases c2:8<g.D
 ·simp only[c2,aB,Aa,Ac,F7,Es,Ed,Dq,C7,Cr,Ch,Cc,Bx,Bt]
  exact no _ (f (p:=¬8<g.D) (by simpa using c2) fun hb=>by have:=(Wk hb).d1;omega)
 simp only[c2,aA,Aa,Ac,Cy j rfl,gL,I,F7];by_cases c3:g.Z<1
 ·simp only[c3,aB,Aa,Ac,Es,Ed,Dq,C7,Cr,Ch,Cc,Bx,Bt]
  exact no _ (f (p:=¬g.Z<1) (by simpa using c3) fun hb=>by have:=(Wk hb).z0;omega)
 simp only[c3,aA,Aa,Ac,Cy j rfl,gL,I,Es];by_cases c4:64<g.Z
 ·simp only[c4,aB,Aa,Ac,Ed,Dq,C7,Cr,Ch,Cc,Bx,Bt]
  exact no _ (f (p:=¬64<g.Z) (by simpa using c4) fun hb=>by have:=(Wk hb).z1;omega)
 simp only[c4,aA,Aa,Ac,Cy j rfl,gL,I,Ed];by_cases J:g.S<4
 ·simp only[J,aB,Aa,Ac,Dq,C7,Cr,Ch,Cc,Bx,Bt]
  exact no _ (f (p:=¬g.S<4) (by simpa using J) fun hb=>by have:=(Wk hb).s0;omega)
 simp only[J,aA,Aa,Ac,Cy j rfl,gL,I,Dq];by_cases L:64<g.S
 ·simp only[L,aB,Aa,Ac,C7,Cr,Ch,Cc,Bx,Bt]
  exact no _ (f (p:=¬64<g.S) (by simpa using L) fun hb=>by have:=(Wk hb).s1;omega)
 simp only[L,aA,Aa,Ac,Cy j rfl,gL,I,C7];by_cases U:g.B<1
 ·simp only[U,aB,Aa,Ac,Cr,Ch,Cc,Bx,Bt]
  exact no _ (f (p:=¬g.B<1) (by simpa using U) fun hb=>by have:=(Wk hb).b0;omega)
 simp only[U,aA,Aa,Ac,Cy j rfl,gL,I,Cr];by_cases W:256<g.B
 ·simp only[W,aB,Aa,Ac,Ch,Cc,Bx,Bt]
  exact no _ (f (p:=¬256<g.B) (by simpa using W) fun hb=>by have:=(Wk hb).b1;omega)
 simp only[W,aA,Aa,Ac,Cy j rfl,gL,I,Ch];by_cases X:g.P<0
 ·simp only[X,aB,Aa,Ac,Cc,Bx,Bt]
  exact no _ (f (p:=¬g.P<0) (by simpa using X) fun hb=>by have:=(Wk hb).p0;omega)
 simp only[X,aA,Aa,Ac,Cy j rfl,gL,I,Cc];by_cases d1:4<g.P
 ·simp only[d1,aB,Aa,Ac,Bx,Bt]
  exact no _ (f (p:=¬4<g.P) (by simpa using d1) fun hb=>by have:=(Wk hb).p1;omega)
 simp only[d1,aA,Aa,Ac,Cy j rfl,gL,I,Bx];by_cases d2:g.O<4
 ·simp only[d2,aB,Aa,Ac,Bt]
  exact no _ (f (p:=¬g.O<4) (by simpa using d2) fun hb=>by have:=(Wk hb).o0;omega)
 simp only[d2,aA,Aa,Ac,Cy j rfl,gL,I,Bt];by_cases d3:64<g.O
 ·simp only[d3,aB,Aa]
  exact no _ (f (p:=¬64<g.O) (by simpa using d3) fun hb=>by have:=(Wk hb).o1;omega)
 have hs:kq g=true:=by
  simp only[kq,bD,J8];omega
 have s:=Wk hs;rw[hs];simp only[d3,aA,Aa,Ac,Uf,Ar,Cj hn,Cv j rfl,Ai (show(gL g).length=6 from rfl),bF];refine Ok.bE (P:=fun v h4=>v=I g.parts/\Ext h1.lift h4) ⟨_,_,Bge s hK _,rfl,Aw.new _ _⟩ (fun _ _ p=>p.2) ?_;rintro _ h4 h5 ⟨rfl,_⟩ _ Y;have y:h5.get h.next=some (.cells (gL g) 92):=by rw[Y.get _ hn id];exact j
 simp only[Aa,Ac,Ar,Cj hn,Cy y rfl,gL,I];by_cases E:g.parts<=g.S
 ·simp only[E,aB,Aa,Ar,Cj hn,Cy y rfl,Cv y rfl,Ai (show(gL g).length=6 from rfl),gL,I,Ac,bF]
  refine Ok.bE (A4y s _) (fun _ _ p=>p.2) ?_;rintro _ h6 h7 ⟨rfl,_⟩ _ x7;obtain⟨t0,t1⟩:=TG s;have:=s.s0;have:=s.s1;have:=s.b0;have:=s.b1;obtain⟨m0,m1⟩:=vB (a:=g.S) (b:=g.segments) (A:=64) (B:=2000);simp only[Ac,I,Jd,Aa];rw[Ci (n:=2*g.B),Ci (n:=g.S*g.segments)];exact .ret ⟨rfl,C.trans (Y.trans x7)⟩
 ·simp only[E,aA,Aa,Ac,Jd,bB]
  exact .ret ⟨rfl,C.trans Y⟩
theorem A6h(h1:1<=n)(h2:n<=4096)(h:Ab):tK K (I n) h=some (.tuple [.ptr (h.next+1) 0,I 0],(h.new (.chan n [])).new (.cells [.chan h.next] 199)):=by
 simp only[tK,I,Ac,Aa];have a:¬(n:Int)<1:=a_
 have b:¬(4096:Int)<(n:Int):=a_
 simp only[a,b,aA,Aa,Ac,HT,HS];have hm:tJ (.int .i64 (n:Int)) h=some (.chan h.next,h.new (.chan n [])):=by
  show Bb (Nat.ble n 65536) _ none=_;rw[aM a_,Aj]
 rw[hm,Aq,Ax (l:=[.chan h.next]) rfl];simp only[Aa];rfl
structure E8(h:Ab)(p ql n:Nat)(q c:Nat->Nat)(g:Gm)(ps:Nat->List Int):Prop where
 pos:0<n
 Gt:h.get p=some (.cells (gL g++[.slice ql 0 n n true]) 165)
 row:h.get ql=some (.vec ((List.range n).map fun d=>.ptr (q d) 0) 166 1)
 que:∀d,d<n->h.get (q d)=some (.cells [.chan (c d)] 199)
 chan:∀d,d<n->h.get (c d)=some (.chan g.Z.toNat ((ps d).map I))
 inj:∀d e,d<n->e<n->c d=c e->d=e
structure y6(h0 h:Ab)(p ql i:Nat)(q c:Nat->Nat)(g:Gm)(s:EV):Prop where
 Gt:h.get p=some (.cells (gL g++[s]) 165)
 row:Bu h s ql 166 1 i ((List.range i).map fun d=>.ptr (q d) 0)
 que:∀d,d<i->h.get (q d)=some (.cells [.chan (c d)] 199)
 chan:∀d,d<i->h.get (c d)=some (.chan g.Z.toNat [])
 inj:∀d e,d<i->e<i->c d=c e->d=e
 new:h0.next<=p/\(0<i->h0.next<=ql)/\∀d,d<i->h0.next<=q d/\h0.next<=c d
 ext:Ext h0 h
 hb:HB h
theorem A2t {g:Gm}(s:Sm g)(h0:Ab){b p:Nat}(aa:b<h0.next)(hg:h0.get b=some (.cells (gL g) 23)):∀(m i:Nat) (ql:Nat) (q c:Nat->Nat) (A:EV) (h:Ab),g.D.toNat-i<m->i<=g.D.toNat->y6 h0 h p ql i q c g A ->
 Ok (rB K m (.ptr b 0) (.ptr p 0) (I g.D) (I i) h) fun v h'=>v=.tuple [.ptr p 0,I 0]/\Ext h0 h'/\HB h'/\∃ql q c A,y6 h0 h' p ql g.D.toNat q c g A:=by
 have:=s.d0;have:=s.d1;have:=s.z0;have:=s.z1;intro m;induction m with
 | zero=>intro i _ _ _ _ _ hm;omega
 | succ m ih=>
  intro i ql q c A h hm hi P;simp only[rB,I,Ac,Aa];by_cases L:(i:Int)<g.D
  ·have ab:h.get b=some (.cells (gL g) 23):=by rw[P.ext.get _ aa id];exact hg
   simp only[L,aB,Aa,IQ,Cy ab rfl,gL,I];have hq:=A6h (K:=K) (n:=g.Z.toNat) a_ a_ h;rw[dV a_]at hq;simp only[I]at hq;simp only[hq,Aa,Ac,aC,aA,IP];have e1:Ext h ((h.new (.chan g.Z.toNat [])).new (.cells [.chan h.next] 199)):=(Aw.new _ _).trans (Aw.new _ _);have y:HB ((h.new (.chan g.Z.toNat [])).new (.cells [.chan h.next] 199)):=(P.hb.new _).new _;have gq:((h.new (.chan g.Z.toNat [])).new (.cells [.chan h.next] 199)).get (h.next+1)=some (.cells [.chan h.next] 199):=Ad _ _;have gc:((h.new (.chan g.Z.toNat [])).new (.cells [.chan h.next] 199)).get h.next=some (.chan g.Z.toNat []):=by rw[Az _ (aO _)];exact Ad _ _
   have n1:((h.new (.chan g.Z.toNat [])).new (.cells [.chan h.next] 199)).next=h.next+2:=rfl
   generalize (h.new (.chan g.Z.toNat [])).new (.cells [.chan h.next] 199)=h1 at e1 y gq gc n1⊢;have gp:h1.get p=some (.cells (gL g++[A]) 165):=e1.at P.hb P.Gt;have E:Bu h1 A ql 166 1 i ((List.range i).map fun d=>.ptr (q d) 0):=P.row.frame fun hl=>e1.get _ (P.hb _ _ (P.row.block hl)) id
   have lp:=P.hb _ _ P.Gt;rw[Cy gp rfl,show(gL g++[A])[6]? = some A from rfl,G6];refine Kv (z:=[.Bz]) E y rfl rfl rfl a_ a_ ?_;intro h2 J n2 c2;have n0:=P.ext.next
   have B:∀x o,h1.get x=some o->(∀l e sz,o≠.vec l e sz)->¬(0<i/\x=ql):=by
    rintro x o Y O ⟨hl,rfl⟩;rw[E.block hl]at Y;cases Y;exact O _ _ _ rfl
   have W:h2.get p=some (.cells (gL g++[A]) 165):=c2.at y gp (B _ _ gp (by intros;simp));refine Ok.st (gL g++[EV.slice (h1.next+1) 0 (i+1) (i+1) true]) W rfl rfl rfl ?_;simp only[IM,I,Ac];rw[Ci];have hE:Ext h h2->Ext h0 h2:=fun x=>P.ext.trans x
   have x2:Ext h0 h2:=by
    refine(P.ext.trans e1).then c2 fun j hj L=>?_
    have:=(P.new.2.1 hj.1);omega
   have x3:Ext h0 (h2.put p (.cells (gL g++[EV.slice (h1.next+1) 0 (i+1) (i+1) true]) 165)):=x2.Ao (.inr P.new.1) (by have:=c2.next;omega) _;have ag:=c2.hb y;have ah:HB (h2.put p (.cells (gL g++[EV.slice (h1.next+1) 0 (i+1) (i+1) true]) 165)):=ag.put (by have:=c2.next;omega) _;have Cn:∀x o,h.get x=some o->(∀l e sz,o≠.vec l e sz)->x≠p->(h2.put p (.cells (gL g++[EV.slice (h1.next+1) 0 (i+1) (i+1) true]) 165)).get x=some o:=by
    intro x o Y O ai;rw[Ae _ (cn ai)];have X:=e1.at P.hb Y;exact c2.at y X (B _ _ X O)
   have aw:h.next<h1.next:=a_
   have P':y6 h0 (h2.put p (.cells (gL g++[EV.slice (h1.next+1) 0 (i+1) (i+1) true]) 165)) p (h1.next+1) (i+1) (fun d=>if d=i then h.next+1 else q d) (fun d=>if d=i then h.next else c d) g (.slice (h1.next+1) 0 (i+1) (i+1) true):=by
    refine⟨Af _ _ _,?_,?_,?_,?_,⟨P.new.1,fun _=>a_,?_⟩,x3,ah⟩
    ·have:(List.range (i+1)).map (fun d=>EV.ptr (if d=i then h.next+1 else q d) 0)=((List.range i).map fun d=>EV.ptr (q d) 0)++EV.cells (.ptr (h.next+1) 0):=by
      rw[cu,bZ];congr 1
      ·refine cr fun d hd=>?_
       rw[aK (by have:=eX.1 hd;omega)]
      ·simp[EV.cells]
     rw[this];refine J.frame fun _=>Ae _ ?_
     have:=J.block a_;exact Av W this (by simp)
    ·intro d hd
     by_cases f:d=i
     ·subst f
      simp only[bM];rw[Ae _];exact c2.at y gq (B _ _ gq (by intros;simp))
     ·simp only[f,ak]
      have:=P.que d a_;exact Cn _ _ this (by intros;simp) (Av this P.Gt (by simp))
    ·intro d hd
     by_cases f:d=i
     ·subst f
      simp only[bM];rw[Ae _];exact c2.at y gc (B _ _ gc (by intros;simp))
     ·simp only[f,ak]
      have:=P.chan d a_;exact Cn _ _ this (by intros;simp) (Av this P.Gt (by simp))
    ·intro d e hd he C
     have lc:=fun d (hd:d<i)=>P.hb _ _ (P.chan d hd)
     by_cases f:d=i<;>by_cases U:e=i
     ·omega
     ·simp only[f,U,bM,ak]at C;have:=lc e a_;omega
     ·simp only[f,U,bM,ak]at C;have:=lc d a_;omega
     ·simp only[f,U,ak]at C;exact P.inj d e a_ a_ C
    ·intro d hd
     by_cases f:d=i
     ·subst f;simp only[bM];omega
     ·simp only[f,ak];exact P.new.2.2 d a_
   exact ih (i+1) _ _ _ _ _ a_ a_ P'
  ·have:i=g.D.toNat:=a_
   subst this;simp only[L,aA,Aa,IL];exact .ret ⟨rfl,P.ext,P.hb,ql,q,c,A,P⟩
theorem A5k {g:Gm}(X:rtB g=true)(hK:1000<K)(hb:HB h):Ok (pJ K (gV g) h) fun v h'=>∃p ql q c,v=.tuple [.ptr p 0,I 0]/\Ext h h'/\HB h'/\E8 h' p ql g.D.toNat q c g (fun _=>[])/\h.next<=p/\h.next<=ql/\∀d,d<g.D.toNat->h.next<=q d/\h.next<=c d:=by
 have s:=No X;have:=s.d0;have:=s.d1;simp only[pJ,gV,Aa];have L:(h.new (.cells (gL g) 23)).get h.next=some (.cells (gL g) 23):=Ad _ _
 have hn:h.next<(h.new (.cells (gL g) 23)).next:=aO _
 have J:Ext h (h.new (.cells (gL g) 23)):=Aw.new _ _;generalize h.new (.cells (gL g) 23)=h1 at L hn J⊢;simp only[Cv L rfl,Ai (show(gL g).length=6 from rfl),Aa];refine(Vf g h1).Al ?_;rintro _ h2 ⟨rfl,y⟩;rw[X];have j:h2.get h.next=some (.cells (gL g) 23):=by rw[y.get _ hn id];exact L
 have A:h.next<h2.next:=aL hn y.next
 simp only[Aa,IU,Cv j rfl,Ai (show(gL g).length=6 from rfl)];rw[Ax (l:=gL g++[.An]) rfl];simp only[Aa];have O:=(y.hb (J.hb hb));have B:(h2.new (.cells (gL g++[.An]) 165)).get h.next=some (.cells (gL g) 23):=by rw[Az _ A];exact j
 have C:(h2.new (.cells (gL g++[.An]) 165)).get h2.next=some (.cells (gL g++[.An]) 165):=Ad _ _
 have Y:Ext h2 (h2.new (.cells (gL g++[.An]) 165)):=Aw.new _ _;have E:HB (h2.new (.cells (gL g++[.An]) 165)):=O.new _;have n3:h2.next<(h2.new (.cells (gL g++[.An]) 165)).next:=aO _
 generalize h2.new (.cells (gL g++[.An]) 165)=h3 at B C Y E n3⊢;simp only[Cy B rfl,gL,Aa,I];refine(A2t (K:=K) (p:=h2.next) s h2 A j K 0 0 (fun _=>0) (fun _=>0) .An h3 a_ a_ ⟨C,.nil _ _ _ _,fun d hd=>absurd hd (cT _),fun d hd=>absurd hd (cT _),fun d e hd=>absurd hd (cT _),⟨aD _,fun x=>absurd x (bU _),fun d hd=>absurd hd (cT _)⟩,Y,E⟩).mono ?_;rintro v h' ⟨rfl,x4,U,ql,q,c,sl,P⟩;refine⟨h2.next,ql,q,c,rfl,J.trans (y.trans x4),U,?_⟩;have f:0<g.D.toNat:=a_
 have W:=P.row.slice f;subst W;have t:=J.next
 have t2:=y.next
 exact⟨⟨f,P.Gt,P.row.block f,P.que,P.chan,P.inj⟩,a_,by have:=P.new.2.1 f;omega,fun d hd=>by have:=P.new.2.2 d hd;omega⟩
theorem Bae {g:Gm}(f:rtB g=false)(h:Ab):Ok (pJ K (gV g) h) fun v h'=>v=.tuple [.Bz,I 20]/\Ext h h':=by
 simp only[pJ,gV,Aa];obtain⟨h1,j,y,A,_⟩:=nW h (.cells (gL g) 23);rw[j];simp only[Cv A rfl,Ai (show(gL g).length=6 from rfl),Aa];refine(Vf g h1).Al ?_;rintro _ h2 ⟨rfl,B⟩;rw[f];simp only[Aa];exact .ret ⟨rfl,y.trans B⟩
theorem A0m(n a:Int)(h:Ab):ru K (I n) (I a) h=some (.bool (wi n 1 a),h):=by
 simp only[ru,I,Ac,Aa];by_cases h1:1<=n
 ·simp only[h1,aB,Aa,Ac,xh,wi,bF]
 ·simp only[h1,aA,Aa,Ac,xh,wi,bB]
def Vt(size:Int):Ds:=.cells [.An,I size,I 0,I 0,.bool false] 176
theorem A6c {size:Int}(h1:1<=size)(h2:size<=64)(h:Ab):M0 K (I size) h=some (.tuple [.ptr h.next 0,I 0],h.new (Vt size)):=by
 have a:¬size<1:=a_
 have b:¬64<size:=a_
 simp only[M0,I,Ac,Aa,a,b,aA,Vl,Vi];rw[Ax (l:=[.An,I size,I 0,I 0,.bool false]) rfl];simp only[Aa];rfl
structure Zn where
 l:List (List EV)
 safe:Nat
 st:Nat
 fin:Bool
def Zn.empty:Zn:=⟨[],0,0,false⟩
structure Fk(h:Ab)(z q:Nat)(size:Int)(Z:Zn):Prop where
 Am:∃s,h.get z=some (.cells [s,I size,I Z.safe,I Z.st,.bool Z.fin] 176)/\Bu h s q 32 64 Z.l.length Z.l.flatten
 wf:∀x∈Z.l,x.length=64
structure Mb(h:Ab)(V zl n:Nat)(z q:Nat->Nat)(size op cnt:Int)(down:Bool)(Zs:Nat->Zn):Prop where
 pos:0<n
 dev:h.get V=some (.cells [.slice zl 0 n n true,I size,I op,I cnt,.bool down] 131)
 row:h.get zl=some (.vec ((List.range n).map fun i=>.ptr (z i) 0) 128 1)
 Am:∀i,i<n->Fk h (z i) (q i) size (Zs i)
 A6b:∀i j,i<n->j<n->z i=z j->i=j
 Baf:∀i j,i<n->j<n->(Zs i).l≠[]->(Zs j).l≠[]->q i=q j->i=j
structure vC(h0 h:Ab)(V zl i:Nat)(z:Nat->Nat)(size op:Int)(s:EV):Prop where
 dev:h.get V=some (.cells [s,I size,I op,I 0,.bool false] 131)
 row:Bu h s zl 128 1 i ((List.range i).map fun d=>.ptr (z d) 0)
 Am:∀d,d<i->h.get (z d)=some (Vt size)
 A6b:∀d e,d<i->e<i->z d=z e->d=e
 new:h0.next<=V/\(0<i->h0.next<=zl)/\∀d,d<i->h0.next<=z d
 ext:Ext h0 h
 hb:HB h
theorem A2e {size:Int}(hn:n<=512)(s0:1<=size)(s1:size<=64)(h0:Ab):∀(m i:Nat) (zl:Nat) (z:Nat->Nat) (E:EV) (h:Ab),n-i<m->i<=n->vC h0 h V zl i z size op E ->
 Ok (rv K m (I size) (.ptr V 0) (I n) (I i) h) fun v h'=>v=.tuple [.ptr V 0,I 0]/\∃zl z E,vC h0 h' V zl n z size op E:=by
 intro m;induction m with
 | zero=>intro i _ _ _ _ hm;omega
 | succ m ih=>
  intro i zl z E h hm hi P;simp only[rv,I,Ac,Aa];by_cases J:(i:Int)<n
  ·simp only[J,aB,Aa,ID]
   have hq:=A6c (K:=K) s0 s1 h;simp only[I]at hq;simp only[hq,Aa,Ac,aC,aA,IC];have e1:Ext h (h.new (Vt size)):=Aw.new _ _;have y:HB (h.new (Vt size)):=P.hb.new _;have gz:(h.new (Vt size)).get h.next=some (Vt size):=Ad _ _
   have n1:(h.new (Vt size)).next=h.next+1:=rfl
   generalize h.new (Vt size)=h1 at e1 y gz n1⊢;have U:h1.get V=some (.cells [E,I size,I op,I 0,.bool false] 131):=e1.at P.hb P.dev;have B:Bu h1 E zl 128 1 i ((List.range i).map fun d=>.ptr (z d) 0):=P.row.frame fun hl=>e1.get _ (P.hb _ _ (P.row.block hl)) id
   have lp:=P.hb _ _ P.dev;rw[Cy U rfl];simp only[Aa];refine Kv (z:=[.Bz]) B y rfl rfl rfl a_ a_ ?_;intro h2 C n2 c2;have n0:=P.ext.next
   have W:∀x o,h1.get x=some o->(∀l e sz,o≠.vec l e sz)->¬(0<i/\x=zl):=by
    rintro x o hx L ⟨hl,rfl⟩;rw[B.block hl]at hx;cases hx;exact L _ _ _ rfl
   have X:=c2.at y U (W _ _ U (by intros;simp));refine Ok.Z7 X rfl rfl (by show 0<5;decide) ?_;simp only[IB,I,Ac,List.set];rw[Ci];have x2:Ext h0 h2:=by
    refine(P.ext.trans e1).then c2 fun j hj J=>?_
    have:=(P.new.2.1 hj.1);omega
   have ae:=c2.hb y;have Y:V<h2.next:=by have:=c2.next;omega
   have x3:=x2.Ao (.inr P.new.1) Y (.cells [EV.slice (h1.next+1) 0 (i+1) (i+1) true,I size,I op,I 0,.bool false] 131);have af:=ae.put Y (.cells [EV.slice (h1.next+1) 0 (i+1) (i+1) true,I size,I op,I 0,.bool false] 131);have Cn:∀x o,h1.get x=some o->(∀l e sz,o≠.vec l e sz)->x≠V->(h2.put V (.cells [EV.slice (h1.next+1) 0 (i+1) (i+1) true,I size,I op,I 0,.bool false] 131)).get x=some o:=by
    intro x o aa L ag;rw[Ae _ (cn ag)];exact c2.at y aa (W _ _ aa L)
   have P':vC h0 (h2.put V (.cells [EV.slice (h1.next+1) 0 (i+1) (i+1) true,I size,I op,I 0,.bool false] 131)) V (h1.next+1) (i+1) (fun d=>if d=i then h.next else z d) size op (.slice (h1.next+1) 0 (i+1) (i+1) true):=by
    refine⟨Af _ _ _,?_,?_,?_,⟨P.new.1,fun _=>a_,?_⟩,x3,af⟩
    ·have:(List.range (i+1)).map (fun d=>EV.ptr (if d=i then h.next else z d) 0)=((List.range i).map fun d=>EV.ptr (z d) 0)++EV.cells (.ptr h.next 0):=by
      rw[cu,bZ];congr 1
      ·refine cr fun d hd=>?_
       rw[aK (by have:=eX.1 hd;omega)]
      ·simp[EV.cells]
     rw[this];refine C.frame fun _=>Ae _ ?_
     have:=C.block a_;exact Av X this (by simp)
    ·intro d hd
     by_cases f:d=i
     ·subst f
      simp only[bM];exact Cn _ _ gz (by intros;simp[Vt]) (Av gz U (by simp[Vt]))
     ·simp only[f,ak]
      have:=e1.at P.hb (P.Am d a_);exact Cn _ _ this (by intros;simp[Vt]) (Av this U (by simp[Vt]))
    ·intro d e hd he A
     have lc:=fun d (hd:d<i)=>P.hb _ _ (P.Am d hd)
     by_cases f:d=i<;>by_cases O:e=i
     ·omega
     ·simp only[f,O,bM,ak]at A;have:=lc e a_;omega
     ·simp only[f,O,bM,ak]at A;have:=lc d a_;omega
     ·simp only[f,O,ak]at A;exact P.A6b d e a_ a_ A
    ·intro d hd
     by_cases f:d=i
     ·subst f;simp only[bM];omega
     ·simp only[f,ak];exact P.new.2.2 d a_
   exact ih (i+1) _ _ _ _ a_ a_ P'
  ·have:i=n:=a_
   subst this;simp only[J,aA,Aa,IA];exact .ret ⟨rfl,zl,z,E,P⟩
def qW(gT size op:Int):Bool:=wi gT 1 512&&wi op 1 64&&wi size 1 64
theorem A45 {size:Int}(A:qW gT size op=true)(hK:1000<K)(hb:HB h):Ok (tM K (I gT) (I size) (I op) h) fun v h'=>∃V zl z,v=.tuple [.ptr V 0,I 0]/\Ext h h'/\HB h'/\Mb h' V zl gT.toNat z (fun _=>0) size op 0 false (fun _=>Zn.empty)/\h.next<=V/\h.next<=zl/\∀d,d<gT.toNat->h.next<=z d:=by
 simp only[qW,bD]at A;obtain⟨⟨B,C⟩,E⟩:=A;obtain⟨a0,U⟩:=J8.1 B;obtain⟨J,c1⟩:=J8.1 E;have w:=fun n a=>A0m (K:=K) n a h
 simp only[I]at w;simp only[tM,I,w,B,C,Aa,Ac,IF,IE];rw[Ax (l:=[.An,I size,I op,I 0,.bool false]) rfl];simp only[Aa];have P:vC h (h.new (.cells [.An,I size,I op,I 0,.bool false] 131)) h.next 0 0 (fun _=>0) size op .An:=
  ⟨Ad _ _,.nil _ _ _ _,fun d hd=>absurd hd (cT _),fun d e hd=>absurd hd (cT _),⟨aD _,fun x=>absurd x (bU _),fun d hd=>absurd hd (cT _)⟩,Aw.new _ _,hb.new _⟩
 have:=A2e (K:=K) (n:=gT.toNat) a_ J c1 h K 0 0 (fun _=>0) .An _ a_ a_ P;rw[dV a_]at this;refine this.mono ?_;rintro v h' ⟨rfl,zl,z,W,P⟩;have f:0<gT.toNat:=a_
 have y:=P.row.slice f;subst y;exact⟨h.next,zl,z,rfl,P.ext,P.hb,⟨f,P.dev,P.row.block f,fun i L=>⟨⟨_,P.Am i L,.nil _ _ _ _⟩,fun x O=>by cases O⟩,P.A6b,fun i j _ _ a=>absurd rfl a⟩,aD _,P.new.2.1 f,P.new.2.2⟩
structure mO(h:Ab)(D V M zl n:Nat)(z q:Nat->Nat)(size op cnt:Int)(down:Bool)(Fl happened:EV)(marks:List (EV × EV))(Zs:Nat->Zn):Prop where
 C0:h.get D=some (.cells [.ptr V 0,Fl,happened,.map M] 118)
 marks:h.get M=some (.map marks)
 dev:Mb h V zl n z q size op cnt down Zs
theorem Mb.ext{z q:Nat->Nat}{size:Int}{Zs:Nat->Zn}(d:Mb h V zl n z q size op cnt down Zs)(g:∀i o,h.get i=some o->h'.get i=some o):Mb h' V zl n z q size op cnt down Zs:=by
 refine⟨d.pos,g _ _ d.dev,g _ _ d.row,fun i f=>?_,d.A6b,d.Baf⟩;obtain⟨s,a,b⟩:=(d.Am i f).Am;exact⟨⟨s,g _ _ a,b.frame fun j=>by rw[g _ _ (b.block j),b.block j]⟩,(d.Am i f).wf⟩
theorem E8.ext{p:Nat}{q c:Nat->Nat}{g:Gm}(d:E8 h p ql n q c g ps)(e:∀i o,h.get i=some o->h'.get i=some o):E8 h' p ql n q c g ps:=
 ⟨d.pos,e _ _ d.Gt,e _ _ d.row,fun i f=>e _ _ (d.que i f),fun i f=>e _ _ (d.chan i f),d.inj⟩
theorem mO.ext{D M:Nat}{z q:Nat->Nat}{size:Int}{Zs:Nat->Zn}(d:mO h D V M zl n z q size op cnt down Fl happened marks Zs)(e:∀i o,h.get i=some o->h'.get i=some o):
 mO h' D V M zl n z q size op cnt down Fl happened marks Zs:=⟨e _ _ d.C0,e _ _ d.marks,d.dev.ext e⟩
theorem A5w {size:Int}(A:qW gT size op=true)(hK:1000<K)(hb:HB h):Ok (rA K (I gT) (I size) (I op) h) fun v h'=>∃D V M zl z,v=.tuple [.ptr D 0,I 0]/\Ext h h'/\HB h'/\mO h' D V M zl gT.toNat z (fun _=>0) size op 0 false .An .An [] (fun _=>Zn.empty)/\(h.next<=D/\h.next<=M)/\h.next<=V/\h.next<=zl/\∀d,d<gT.toNat->h.next<=z d:=by
 simp only[rA,dr];refine(A45 (K:=K) A hK hb).Al ?_;rintro _ h1 ⟨V,zl,z,rfl,j,f,d1,nw⟩;simp only[Aa,Ac,I,aC,aA,IK];rw[show tN h1=some (.map h1.next,h1.new (.map []))from rfl,Aq,Ax (l:=[.ptr V 0,.An,.An,.map h1.next]) rfl];simp only[Aa];have y:Ext h1 ((h1.new (.map [])).new (.cells [.ptr V 0,.An,.An,.map h1.next] 118)):=(Aw.new _ _).Da _;refine .ret ⟨(h1.new (.map [])).next,V,h1.next,zl,z,rfl,j.trans y,(f.new _).new _,⟨Ad _ _,?_,d1.ext fun i o g=>y.at f g⟩,⟨by have:=j.next;show h.next<=h1.next+1;omega,j.next⟩,nw⟩;rw[Az _ (aO _)];exact Ad _ _
section
def mB(ps:Nat->List Int)(n:Nat)(d:Int):Nat:=if 0<=d/\d<n then(ps d.toNat).length else 0
theorem TH{q c:Nat}{buf:List EV}(hq:h.get q=some (.cells [.chan c] 199))(hc:h.get c=some (.chan cap buf)):E9 K (.ptr q 0) h=some (I buf.length,h):=by
 simp only[E9,Aa,Cy hq rfl];have:tL (.chan c) h=some (I buf.length,h):=by
  show(match h.get c with|some (.chan _ buf)=>some (EV.int .i64 (.ofNat (len buf)),h)|_=>none)=_;rw[hc];simp only;rw[Ux];rfl
 rw[this];rfl
section
variable{p:Nat}{q c:Nat->Nat}{g:Gm}(P:E8 h p ql n q c g ps)
include P
theorem E8.rowAt:Bu h (.slice ql 0 n n true) ql 166 1 n ((List.range n).map fun d=>.ptr (q d) 0):=.inr ⟨P.pos,rfl,P.row,by simp⟩
theorem E8.list(k:EV->R):Et (.ptr p 6) h k=k (.slice ql 0 n n true):=by rw[Cy P.Gt rfl];rfl
theorem E8.oY(k:EV->R):Oo 6 (.ptr p 0) h k=k (gV g):=by rw[Cv P.Gt rfl];rfl
theorem E8.nJ {d:Nat}(hd:d<n)(k:EV->R):Et (.ptr ql (d*1)) h k=k (.ptr (q d) 0):=by
 rw[Cy P.row rfl,cD,aY,cL hd];rfl
theorem E8.len {d:Nat}(hd:d<n):E9 K (.ptr (q d) 0) h=some (I (ps d).length,h):=by
 rw[TH (P.que d hd) (P.chan d hd),bT]
theorem A2u(d:Int):Vu K (.ptr p 0) (I d) h=some (I (mB ps n d:Nat),h):=by
 unfold mB;simp only[Vu,I,Ac,Aa];by_cases h1:d<0
 ·simp only[h1,aB,Aa,Ac,V6]
  rw[aK a_];rfl
 ·simp only[h1,aA,Aa,Ac,P.list,V6]
  by_cases h2:(n:Int)<=d
  ·simp only[h2,aB,Aa]
   rw[aK a_];rfl
  ·simp only[h2,aA,Aa,HU,P.list]
   have hd:d.toNat<n:=a_
   have e:d=(d.toNat:Int):=a_
   rw[e,P.rowAt.ix hd];simp only[Aa,P.nJ hd];rw[P.len hd,Aq,aN a_];rfl
end
def sI(ps:Nat->List Int)(Tf:Int)(b:Int)(d:Nat):Int:=if ¬(d:Int)=Tf/\(b<0\/(ps b.toNat).length<(ps d).length)then d else b
def Fq(ps:Nat->List Int)(Tf:Int)(n:Nat):Int:=(List.range n).foldl (sI ps Tf) (-1)
theorem y7(ps:Nat->List Int)(Tf:Int)(n:Nat):Fq ps Tf (n+1)=sI ps Tf (Fq ps Tf n) n:=by unfold Fq;rw[cu,List.foldl_append];rfl
theorem TI(ps:Nat->List Int)(Tf:Int):∀n,-1<=Fq ps Tf n/\Fq ps Tf n<(n:Int)/\(Fq ps Tf n = -1\/0<=Fq ps Tf n)
 | 0=>by unfold Fq;simp
 | n+1=>by
  obtain⟨a,b,c⟩:=TI ps Tf n;rw[y7];unfold sI;split<;>omega
def y8(n:Nat)(ps:Nat->List Int):Prop:=n<=64/\∀d,d<n->(ps d).length<=4096
theorem A5v {p:Nat}{q c:Nat->Nat}{g:Gm}(Tf:Int)(hn:n<=64):∀(m i:Nat) (h:Ab),n-i<m->i<=n->HB h->E8 h p ql n q c g ps ->
 Ok (Hr K m (.ptr p 0) (I Tf) (I (Fq ps Tf i)) (.slice ql 0 n n true) (I n) (I i) h) fun v h'=>v=I (Fq ps Tf n)/\Ext h h':=by
 intro m;induction m with
 | zero=>intro i h hm;omega
 | succ m W=>
  intro i h hm Y hb P;simp only[Hr,I,Ac,Aa];by_cases B:(i:Int)<n
  ·have y:i<n:=a_
   simp only[B,aB,Aa,HW];rw[P.rowAt.ix y,P.nJ y];obtain⟨b0,b1,b2⟩:=TI ps Tf i;have next:∀(b:Int) (h1:Ab),b=Fq ps Tf (i+1)->Ext h h1->Ok (Oj K (Hr K m) (.ptr p 0) (.int .i64 Tf) (.int .i64 b) (.slice ql 0 n n true) (.int .i64 (n:Int)) (.int .i64 (i:Int)) h1) fun v h'=>v=I (Fq ps Tf n)/\Ext h h':=by
    rintro _ h1 rfl E;simp only[Oj,Ac];rw[Ci];exact(W (i+1) h1 a_ a_ (E.hb hb) (P.ext fun i o g=>E.at hb g)).mono fun v h' a=>⟨a.1,E.trans a.2⟩
   rw[y7]at next
   unfold sI at next
   simp only[Aa,Ac];by_cases f:(i:Int)=Tf
   ·simp only[f,aC,aA,Aa,Ac,N5,Hp,Hs]
    rw[aK (fun x=>x.1 f)]at next
    rw[f]at next
    exact next _ h rfl (Aw.refl _)
   ·simp only[f,aH,aB,Aa,Ac,N5]
    by_cases j:Fq ps Tf i<0
    ·simp only[j,aB,Aa,Ac,Hp,Hs]
     rw[aN ⟨f,.inl j⟩]at next
     exact next _ h rfl (Aw.refl _)
    ·simp only[j,aA,Aa,Ac]
     refine Ok.bE (P:=fun v h2=>v=I (ps i).length/\Ext h.lift h2) ⟨_,_,(P.ext (h':=h.lift) fun i o g=>by rw[Bv];exact g).len y,rfl,Aw.refl _⟩ (fun _ _ p=>p.2) ?_;rintro _ h2 J ⟨rfl,_⟩ _ L;have C:E8 J p ql n q c g ps:=P.ext fun i o g=>L.at hb g
     have X:p<h.next:=hb _ _ P.Gt
     have hq:ql<h.next:=hb _ _ P.row
     have A:(Fq ps Tf i).toNat<n:=a_
     simp only[Aa,Ar,Cj X,C.list];rw[show Fq ps Tf i=((Fq ps Tf i).toNat:Int) from a_,C.rowAt.ix A];simp only[Aa,Ar,Cj hq,C.nJ A];refine Ok.bE (P:=fun v h2=>v=I (ps (Fq ps Tf i).toNat).length/\Ext J.lift h2) ⟨_,_,(C.ext (h':=J.lift) fun i o g=>by rw[Bv];exact g).len A,rfl,Aw.refl _⟩ (fun _ _ p=>p.2) ?_;rintro _ h4 O ⟨rfl,_⟩ _ U;rw[show((Fq ps Tf i).toNat:Int)=Fq ps Tf i from a_];simp only[Ac,I];by_cases hc:((ps (Fq ps Tf i).toNat).length:Int)<(ps i).length
     ·simp only[hc,aB,Hp,Hs,Aa,Ac]
      rw[aN ⟨f,.inr a_⟩]at next
      exact next _ O rfl (L.trans U)
     ·simp only[hc,aA,Hp,Hs,Aa,Ac]
      rw[aK (fun x=>by rcases x.2 with a|a<;>omega)]at next
      exact next _ O rfl (L.trans U)
  ·have:i=n:=a_
   subst this;simp only[B,aA,Aa,HV];exact .ret ⟨rfl,Aw.refl _⟩
theorem y9{p:Nat}{q c:Nat->Nat}{g:Gm}(P:E8 h p ql n q c g ps)(hb:HB h)(hn:n<=64)(hK:1000<K)(Tf:Int):
 Ok (Kr K (.ptr p 0) (I Tf) h) fun v h'=>v=I (Fq ps Tf n)/\Ext h h':=by
 simp only[Kr,Aa,P.list];exact A5v Tf hn K 0 h a_ a_ hb P
def jf(ps:Nat->List Int)(n:Nat):Nat:=((List.range n).map fun d=>(ps d).length).sum
theorem sJ(ps:Nat->List Int)(n:Nat):jf ps (n+1)=jf ps n+(ps n).length:=by unfold jf;rw[cu,bZ,List.sum_append];simp
def Z9(ps:Nat->List Int)(n:Nat):Int:=min ((jf ps n:Int)/2) (jf ps n-mB ps n (Fq ps (-1) n))
theorem Ba6 {p:Nat}{q c:Nat->Nat}{g:Gm}(hs:y8 n ps)(hb:HB h)(P:E8 h p ql n q c g ps)(hK:1000<K):∀(m i:Nat),n-i<m->i<=n->jf ps i<=4096*i ->
 Ok (Ms K m (.ptr p 0) (I (jf ps i)) (.slice ql 0 n n true) (I n) (I i) h) fun v h'=>v=I (Z9 ps n)/\Ext h h':=by
 obtain⟨hn,y⟩:=hs;intro m;induction m with
 | zero=>intro i hm;omega
 | succ m C=>
  intro i hm E A;simp only[Ms,I,Ac,Aa];by_cases j:(i:Int)<n
  ·have f:i<n:=a_
   have:=y i f;simp only[j,aB,Aa,IJ];rw[P.rowAt.ix f,P.nJ f,P.len f,Aq];simp only[I,Ac,II];rw[Ci,Ci];have e:((jf ps i:Int)+(ps i).length)=(jf ps (i+1):Nat):=by rw[sJ];omega
   rw[e];exact C (i+1) a_ a_ (by rw[sJ];omega)
  ·have:i=n:=a_
   subst this;simp only[j,aA,Aa,IH];rw[ri a_ a_ a_];refine(y9 P hb hn hK (-1)).Al ?_;rintro _ h1 ⟨rfl,B⟩;rw[A2u (P.ext fun i o g=>B.at hb g),Aq];simp only[I,Ac];have hle:mB ps i (Fq ps (-1) i)<=4096:=by
    unfold mB;split
    ·exact y _ a_
    ·omega
   rw[Ci,min2,Aq];exact .ret ⟨rfl,B⟩
theorem DK{p:Nat}{q c:Nat->Nat}{g:Gm}(P:E8 h p ql n q c g ps)(hb:HB h)(hs:y8 n ps)(hK:1000<K:=by omega):
 Ok (I9 K (.ptr p 0) h) fun v h'=>v=I (Z9 ps n)/\Ext h h':=by
 simp only[I9,Aa,P.list];exact Ba6 hs hb P hK K 0 (by obtain⟨a,_⟩:=hs;omega) a_ (by unfold jf;simp)
end
section
def Abp(D:Nat)(g:Gm)(p bl n:Nat)(a b u:Int):List EV:=[.ptr D 0]++gL g++Bc++[.ptr p 0,.slice bl 0 n n false,I a,I b,I u]
theorem Qo:Bc.length=256:=by kernel_rfl
section
variable (D:Nat)(g:Gm)(p bl n:Nat)(a b u:Int)
theorem y_:(Abp D g p bl n a b u).length=268:=by unfold Abp;simp[Qo,gL]
theorem Bds:(Abp D g p bl n a b u)[0]? = some (.ptr D 0):=rfl
theorem Bgj:Ke (Abp D g p bl n a b u) 1 6=some (gL g):=by kernel_rfl
theorem Bbk:Ke (Abp D g p bl n a b u) 7 256=some Bc:=by kernel_rfl
theorem Biw:(Abp D g p bl n a b u)[263]? = some (.ptr p 0):=by kernel_rfl
theorem Bnh:(Abp D g p bl n a b u)[264]? = some (.slice bl 0 n n false):=by kernel_rfl
theorem Brh:(Abp D g p bl n a b u)[265]? = some (I a):=by kernel_rfl
theorem Brm:(Abp D g p bl n a b u)[266]? = some (I b):=by kernel_rfl
theorem Brt:(Abp D g p bl n a b u)[267]? = some (I u):=by kernel_rfl
end
theorem Rb{l:List EV}(f:h.get i=some (.cells l t))(hs:TT.size t=some n)(j:TT.agg t=some true)(y:l.length=n):Gi TT [.c (.ptr i 0) t] h=some (.agg l,h):=by
 have A:Jn h i 0 n=some l:=by
  unfold Jn;rw[f];simp only;rw[<-m_];exact Ai y
 unfold Gi;simp only[j5,hs,A,j]
structure Aca(h:Ab)(m D p bl n:Nat)(g:Gm)(a b u:Int)(bad:Nat->Int):Prop where
 Jb:h.get m=some (.cells (Abp D g p bl n a b u) 113)
 Ayw:h.get bl=some (.cells ((List.range n).map fun z=>I (bad z)) 3)
section
variable{m D p bl:Nat}{g:Gm}{b u:Int}{bad:Nat->Int}(M:Aca h m D p bl n g a b u bad)
include M
theorem Aca.C0(k:EV->R):Et (.ptr m 0) h k=k (.ptr D 0):=by rw[Cy M.Jb rfl,Bds];rfl
theorem Aca.oY(k:EV->R):Oo 6 (.ptr m 1) h k=k (gV g):=by rw[Cv M.Jb rfl,Bgj];rfl
theorem Aca.table(k:EV->R):Oo 256 (.ptr m 7) h k=k U1:=by rw[Cv M.Jb rfl,Bbk];rfl
theorem Aca.Gt(k:EV->R):Et (.ptr m 263) h k=k (.ptr p 0):=by rw[Cy M.Jb rfl,Biw];rfl
theorem Aca.TJ(k:EV->R):Et (.ptr m 264) h k=k (.slice bl 0 n n false):=by rw[Cy M.Jb rfl,Bnh];rfl
theorem Aca.oa(k:EV->R):Et (.ptr m 265) h k=k (I a):=by rw[Cy M.Jb rfl,Brh];rfl
theorem Aca.ob(k:EV->R):Et (.ptr m 266) h k=k (I b):=by rw[Cy M.Jb rfl,Brm];rfl
theorem Aca.ou(k:EV->R):Et (.ptr m 267) h k=k (I u):=by rw[Cy M.Jb rfl,Brt];rfl
theorem Aca.ext(e:∀i o,h.get i=some o->h'.get i=some o):Aca h' m D p bl n g a b u bad:=⟨e _ _ M.Jb,e _ _ M.Ayw⟩
omit M in
theorem sW:TT.size 23=some 6/\TT.agg 23=some true:=⟨by kernel_rfl,by kernel_rfl⟩
omit M in
theorem TK:TT.size 73=some 256/\TT.agg 73=some true:=⟨by kernel_rfl,by kernel_rfl⟩
end
section
variable{D M:Nat}{z q:Nat->Nat}{size:Int}{Zs:Nat->Zn}
theorem TL(d:mO h D V M zl n z q size op cnt down Fl happened marks Zs):Dl K (.ptr D 0) h=some (.ptr V 0,h):=by simp only[Dl,Aa,Cy d.C0 rfl]
theorem TM(d:Mb h V zl n z q size op cnt down Zs):N4 K (.ptr V 0) h=some (I n,h):=by simp only[N4,Aa,Cy d.dev rfl,I]
theorem TN(d:Mb h V zl n z q size op cnt down Zs):Pr K (.ptr V 0) h=some (I size,h):=by simp only[Pr,Aa,Cy d.dev rfl]
end
theorem wV(v:EV):∀n,rep [v] n=List.replicate n v
 | 0=>rfl
 | n+1=>by show[v]++rep [v] n=_;rw[wV v n];rfl
theorem HC(v:EV)(n:Nat):(List.range n).map (fun _=>v)=List.replicate n v:=by
 rw[List.map_const',eh]
theorem A2n {g:Gm}(hK:1000<K)(hb:HB h){D M:Nat}{z q:Nat->Nat}{size:Int}{Zs:Nat->Zn}(dr:mO h D V M zl n z q size op cnt down Fl happened marks Zs):
 Ok (rD K (.ptr D 0) (gV g) U1 h) fun v h'=>Ext h h'/\HB h'/\if rtB g=true/\g.D*g.Z=n/\g.S=size then
  ∃m p bl ql q c,v=.tuple [.ptr m 0,I 0]/\Aca h' m D p bl n g (-1) (-1) 0 (fun _=>0)/\E8 h' p ql g.D.toNat q c g (fun _=>[])/\(h.next<=m/\h.next<=bl)/\h.next<=p/\h.next<=ql/\∀d,d<g.D.toNat->h.next<=q d/\h.next<=c d else v=.tuple [.Bz,I 20]:=by
 have al:Pz 73 U1 (h.new (.cells (gL g) 23))=fun(k:EV->Ab->R)=>k (.ptr (h.next+1) 0) ((h.new (.cells (gL g) 23)).new (.cells Bc 73)):=rfl
 simp only[rD,gV,Aa,al];have g4:((h.new (.cells (gL g) 23)).new (.cells Bc 73)).get h.next=some (.cells (gL g) 23):=by rw[Az _ (aO _)];exact Ad _ _
 have g5:((h.new (.cells (gL g) 23)).new (.cells Bc 73)).get (h.next+1)=some (.cells Bc 73):=Ad _ _;have J:Ext h ((h.new (.cells (gL g) 23)).new (.cells Bc 73)):=(Aw.new _ _).Da _;have n1:((h.new (.cells (gL g) 23)).new (.cells Bc 73)).next=h.next+2:=rfl
 generalize (h.new (.cells (gL g) 23)).new (.cells Bc 73)=h1 at g4 g5 J n1⊢;have E:=J.hb hb;simp only[Cv g4 rfl,Ai (show(gL g).length=6 from rfl),Aa];cases hr:rtB g with
 | false=>
  refine(Bae hr h1).Al ?_;rintro _ h2 ⟨rfl,C⟩;simp only[Aa,I,Ac,show ¬((20:Int)=0) from c_,aH,aB,tO,Ra];exact .ret ⟨J.trans C,C.hb E,rfl⟩
 | true=>
  have s:=No hr;have:=s.d0;have:=s.d1;have:=s.z0;have:=s.z1;obtain⟨m0,m1⟩:=Rp (a:=g.D) (b:=g.Z) (A:=8) (B:=64);refine(A5k hr hK E).Al ?_;rintro _ h2 ⟨p,ql,qq,c,rfl,C,j,P,nw⟩;have k2:∀i o,h.get i=some o->h2.get i=some o:=fun i o g=>C.at E (J.at hb g)
  have l4:h.next<h2.next:=by have:=C.next;omega
  have l5:h.next+1<h2.next:=by have:=C.next;omega
  have X:=C.at E g4;have au:=C.at E g5;simp only[Aa,I,Ac,aC,aA];refine Ok.bE (P:=fun v h3=>v=.ptr V 0/\Ext h2.lift h3) ⟨_,_,TL ((dr.ext k2).ext fun i o g=>by rw[Bv];exact g),rfl,Aw.refl _⟩ (fun _ _ p=>p.2) ?_;rintro _ _ h3 ⟨rfl,_⟩ _ x3;have Y:=x3.hb j;have k3:∀i o,h.get i=some o->h3.get i=some o:=fun i o g=>x3.at j (k2 i o g)
  refine Ok.bE (P:=fun v h4=>v=I n/\Ext h3.lift h4) ⟨_,_,TM ((dr.dev.ext k3).ext fun i o g=>by rw[Bv];exact g),rfl,Aw.refl _⟩ (fun _ _ p=>p.2) ?_;rintro _ _ h4 ⟨rfl,_⟩ _ x4;have aa:=x4.hb Y;have k4:∀i o,h.get i=some o->h4.get i=some o:=fun i o g=>x4.at Y (k3 i o g)
  have ab:Ext h2 h4:=x3.trans x4;have ay:=ab.at j X;simp only[Aa,Ar,Cj l4,Cv ay rfl,Ai (show(gL g).length=6 from rfl)];refine Ok.bE (P:=fun v W=>v=I (g.D*g.Z)/\Ext h4.lift W) ⟨_,_,Ot s _,rfl,Aw.new _ _⟩ (fun _ _ p=>p.2) ?_;rintro _ _ W ⟨rfl,_⟩ _ x5;have ad:=x5.hb aa;have k5:∀i o,h.get i=some o->W.get i=some o:=fun i o g=>x5.at aa (k4 i o g)
  simp only[I,Ac,tO];have ae:Ext h2 W:=ab.trans x5;by_cases hn:(n:Int)=g.D*g.Z
  ·simp only[hn,aC,aA,Aa,Ac]
   refine Ok.bE (P:=fun v h6=>v=.ptr V 0/\Ext W.lift h6) ⟨_,_,TL ((dr.ext k5).ext fun i o g=>by rw[Bv];exact g),rfl,Aw.refl _⟩ (fun _ _ p=>p.2) ?_;rintro _ _ h6 ⟨rfl,_⟩ _ x6;have a2:=x6.hb ad;have k6:∀i o,h.get i=some o->h6.get i=some o:=fun i o g=>x6.at ad (k5 i o g)
   refine Ok.bE (P:=fun v O=>v=I size/\Ext h6.lift O) ⟨_,_,TN ((dr.dev.ext k6).ext fun i o g=>by rw[Bv];exact g),rfl,Aw.refl _⟩ (fun _ _ p=>p.2) ?_;rintro _ _ O ⟨rfl,_⟩ _ x7;have a5:=x7.hb a2;have y:Ext h2 O:=ae.trans (x6.trans x7);have af:=y.at j X;simp only[Aa,Ar,Cj l4,Cy af rfl,gL,I,Ac];by_cases hs:size=g.S
   ·subst hs
    simp only[aC,aA,Ra,IV,Aa];have a6:=y.at j au;have a7:h.next<O.next:=aL l4 y.next
    have a8:h.next+1<O.next:=aL l5 y.next
    simp only[Aa,Ar,Cj a7,Cj a8,Cv af rfl,Cv a6 rfl,Ai (show(gL g).length=6 from rfl),Ai Qo];refine Ok.bE (P:=fun v f=>v=I (g.D*g.Z)/\Ext O.lift f) ⟨_,_,Ot s _,rfl,Aw.new _ _⟩ (fun _ _ p=>p.2) ?_;rintro _ _ f ⟨rfl,_⟩ _ x8;have bz:=x8.hb a5;have U:Ext h2 f:=y.trans x8;simp only[Aa,Ar,I];rw[<-hn];have ba:Wl [.int .i64 0] 3 (.int .i64 (n:Int)) (.int .i64 (n:Int)) f=some (.slice f.next 0 n n false,f.new (.cells (rep [.int .i64 0] n) 3)):=by
     show Bb (Nat.ble n n) (Bb (Nat.ble n 65536) _ none) none=_;rw[aM (aD n),Aj,aM a_,Aj]
    rw[ba,Aq,Ax (l:=Abp D g p f.next n (-1) (-1) 0) (by kernel_rfl)];simp only[Aa,Ar];have ag:Ext f ((f.new (.cells (rep [.int .i64 0] n) 3)).new (.cells (Abp D g p f.next n (-1) (-1) 0) 113)):=(Aw.new _ _).Da _;have L:Ext h ((f.new (.cells (rep [.int .i64 0] n) 3)).new (.cells (Abp D g p f.next n (-1) (-1) 0) 113)):=(J.trans C).trans (U.trans ag);refine .ret ⟨L,L.hb hb,?_⟩;rw[aN (by first|exact⟨rfl,hn.symm,rfl⟩|simp[hn]|simp)];refine⟨f.next+1,p,f.next,ql,qq,c,rfl,⟨Ad _ _,?_⟩,P.ext fun i o g=>Ext.at (U.trans ag) j g,?_⟩
    ·rw[Az _ (aO _),Ad,wV,HC]
    ·have t1:=J.next
     have t2:=C.next
     have t3:=U.next
     exact⟨⟨a_,a_⟩,a_,a_,fun d hd=>by have:=nw.2.2 d hd;omega⟩
   ·have ah:¬size=g.S:=hs
    simp only[ah,aH,aB,Ra,Aa];have L:Ext h O:=(J.trans C).trans y;refine .ret ⟨L,L.hb hb,?_⟩;rw[aK (fun x=>ah x.2.2.symm)]
  ·simp only[hn,aH,aB,Aa,Ac,Ra]
   have L:Ext h W:=(J.trans C).trans ae;refine .ret ⟨L,L.hb hb,?_⟩;rw[aK (fun x=>hn x.2.1.symm)]
end
section
section
variable{m D p bl:Nat}{g:Gm}{b u:Int}{bad:Nat->Int}(M:Aca h m D p bl n g a b u bad)
include M
theorem Xw:Cq K (.ptr m 0) h=some (.ptr p 0,h):=by simp only[Cq,Aa,M.Gt]
theorem Vq:Bm K (.ptr m 0) h=some (.ptr D 0,h):=by simp only[Bm,Aa,M.C0]
theorem A00:L2 K (.ptr m 0) h=some (.tuple [I a,I b,I u],h):=by simp only[L2,Aa,M.oa,M.ob,M.ou]
theorem Azy(hb:HB h):Ok (Cf K (.ptr m 0) h) fun v h'=>v=gV g/\Ext h h':=by
 simp only[Cf,Aa];have f:Aca (h.new (.cells [.int .i64 0,.int .i64 0,.int .i64 0,.int .i64 0,.int .i64 0,.int .i64 0] 23)) m D p bl n g a b u bad:=M.ext fun i o g=>Ext.at (Aw.new h _) hb g
 rw[f.oY];refine Ok.st (gL g) (Ad _ _) rfl rfl rfl ?_;rw[Rb (Af _ _ _) sW.1 sW.2 rfl];exact .ret ⟨rfl,(Aw.new h _:Ext _ _).Ao (.inr (aD _)) (aO _) _⟩
theorem WZ(hb:HB h):Ok (Lb K (.ptr m 0) h) fun v h'=>v=U1/\Ext h h':=by
 simp only[Lb,Aa];have f:Aca (h.new (.cells (List.replicate 256 (.int .u32 0)) 73)) m D p bl n g a b u bad:=M.ext fun i o g=>Ext.at (Aw.new h _) hb g
 rw[f.table];refine Ok.st Bc (Ad _ _) rfl (by rw[show EV.cells U1=Bc from rfl,Be,Qo]) (by rw[show EV.cells U1=Bc from rfl];exact Bl (by rw[Qo];simp)) ?_;rw[Rb (Af _ _ _) TK.1 TK.2 Qo];exact .ret ⟨rfl,(Aw.new h _:Ext _ _).Ao (.inr (aD _)) (aO _) _⟩
end
end
section
section
variable{q c:Nat}(hq:h.get q=some (.cells [.chan c] 199))(hc:h.get c=some (.chan cap (xs.map I)))
include hq hc
theorem za(x:Int)(f:xs.length<cap):G9 K (.ptr q 0) (I x) h=some (I 0,h.put c (.chan cap ((xs++[x]).map I))):=by
 have hs:ox (.chan c) (I x) h=some (.tuple [.int .i64 0,.bool false],h.put c (.chan cap ((xs++[x]).map I))):=by
  unfold ox;simp only[hc,Ux,bT];rw[aM f,Aj,bZ];rfl
 simp only[G9,Aa,Cy hq rfl,hs,Ac,aB]
theorem Brp(x:Int)(f:cap<=xs.length):G9 K (.ptr q 0) (I x) h=some (I 17,h):=by
 have hs:ox (.chan c) (I x) h=some (.tuple [.int .i64 (-1),.bool false],h):=by
  unfold ox;simp only[hc,Ux,bT];rw[show Nat.ble (Nat.succ xs.length) cap=false from by
   cases hb:Nat.ble (Nat.succ xs.length) cap with
   | false=>rfl
   | true=>have:=bG hb;omega,Bk]
 simp only[G9,Aa,Cy hq rfl,hs,Ac,show ¬((-1:Int)=0) from c_,aA]
theorem take_cons {x:Int}{r:List Int}(f:xs=x::r):Gb K (.ptr q 0) h=some (.tuple [I x,I 0],h.put c (.chan cap (r.map I))):=by
 subst f;have hs:oz (.int .i64 0) (.chan c) h=some (.tuple [.int .i64 0,.bool true,I x],h.put c (.chan cap (r.map I))):=by
  unfold oz;simp only[hc,cZ]
 simp only[Gb,Aa,Cy hq rfl,hs,Ac,aB]
theorem take_nil(f:xs = []):Gb K (.ptr q 0) h=some (.tuple [I 0,I 15],h):=by
 subst f;have hs:oz (.int .i64 0) (.chan c) h=some (.tuple [.int .i64 (-1),.bool false,.int .i64 0],h):=by
  unfold oz;simp only[hc,List.map_nil]
 simp only[Gb,Aa,Cy hq rfl,hs,Ac,show ¬((-1:Int)=0) from c_,aA]
end
structure Listed(h0 h:Ab)(v:EV)(c cap:Nat)(xs:List Int)(q':Nat):Prop where
 row:Bu h v q' 3 1 xs.length (xs.map I)
 new:0<xs.length->h0.next<=q'
 chan:h.get c=some (.chan cap (xs.map I))
 chg:Aw (fun i=>i=c) h0 h
 hb:HB h
theorem Bgv{q c:Nat}(A:h0.get q=some (.cells [.chan c] 199))(f:∃b,h0.get c=some (.chan cap b))(O:xs.length<=cap)(U:cap<=4096)(g_:HB h0):∀(m j:Nat) (h:Ab) (s:EV) (q':Nat),xs.length-j<m->j<=xs.length ->
 Bu h s q' 3 1 xs.length (xs.map I)->(0<xs.length->h0.next<=q')->h.get c=some (.chan cap ((xs.take j).map I))->Aw (fun i=>i=c) h0 h->HB h ->
 Ok (Ix K m (.ptr q 0) s s (I xs.length) (I j) h) fun v h'=>∃q',Listed h0 h' v c cap xs q':=by
 obtain⟨b0,f⟩:=f;have J:q≠c:=Av A f (by simp);have lc:=g_ _ _ f;intro m;induction m with
 | zero=>intro j h s q' hm;omega
 | succ m W=>
  intro j h s q' hm hj row new hc x hb;simp only[Ix,I,Ac,Aa];by_cases B:(j:Int)<xs.length
  ·have y:j<xs.length:=a_
   have hq:h.get q=some (.cells [.chan c] 199):=Aw.at x g_ A J;have C:=row.block a_;simp only[B,aB,Aa,LC];rw[row.ix y,Cy C rfl,cD,aY,aF y,eA,G6,za hq hc xs[j] (by rw[bH];omega),Aq];simp only[LB,Ac];rw[Ci];have e:xs.take j++[xs[j]]=xs.take (j+1):=(bV y).symm;rw[e];have E:c<h.next:=aL lc x.next
   have L:q'≠c:=Av C hc (by simp);exact W (j+1) _ s q' a_ a_ (row.frame fun _=>Ae _ (cn L)) new (Af _ _ _) (x.Ao (.inl rfl) E _) (hb.put E _)
  ·have:j=xs.length:=a_
   subst this;simp only[B,aA,Aa,Uy];rw[cF]at hc;exact .ret ⟨q',row,new,hc,x,hb⟩
theorem Bhc{q c:Nat}(B:h0.get q=some (.cells [.chan c] 199))(f:∃b,h0.get c=some (.chan cap b))(C:xs.length<=cap)(U:cap<=4096)(g_:HB h0)(hK:5000<K):∀(m j:Nat) (h:Ab) (s:EV) (q':Nat),xs.length-j<m->j<=xs.length ->
 Bu h s q' 3 1 j ((xs.take j).map I)->(0<j->h0.next<=q')->h.get c=some (.chan cap ((xs.drop j).map I))->Aw (fun i=>i=c) h0 h->HB h ->
 Ok (Is K m (.ptr q 0) s (I xs.length) (I j) h) fun v h'=>∃q',Listed h0 h' v c cap xs q':=by
 have E:=f;obtain⟨b0,f⟩:=f;have W:q≠c:=Av B f (by simp);have lc:=g_ _ _ f;intro m;induction m with
 | zero=>intro j h s q' hm;omega
 | succ m ih=>
  intro j h s q' hm hj row new hc x hb;simp only[Is,I,Ac,Aa];by_cases J:(j:Int)<xs.length
  ·have L:j<xs.length:=a_
   have hq:h.get q=some (.cells [.chan c] 199):=Aw.at x g_ B W;have e:xs.drop j=xs[j]::xs.drop (j+1):=cv L;have y:c<h.next:=aL lc x.next
   simp only[J,aB,Aa,LF];rw[take_cons hq hc e];simp only[Aa,I,Ac,aB];have O:Bu (h.put c (.chan cap ((xs.drop (j+1)).map I))) s q' 3 1 j ((xs.take j).map I):=row.frame fun X=>Ae _ (cn (Av (row.block X) hc (by simp)))
   refine Kv (z:=[.int .i64 0]) O (hb.put y _) rfl rfl rfl a_ a_ ?_;intro h2 A n2 c2;have Y:Aw (fun i=>i=c) h0 (h.put c (.chan cap ((xs.drop (j+1)).map I))):=x.Ao (.inl rfl) y _;have x3:Aw (fun i=>i=c) h0 h2:=Y.then c2 fun i hi X=>by have:=new hi.1;omega
   simp only[LD,Ac];rw[Ci];have e2:(xs.take j).map I++EV.cells (.int .i64 xs[j])=(xs.take (j+1)).map I:=by
    rw[bV L,bZ];rfl
   rw[e2]at A;refine ih (j+1) _ _ _ a_ a_ A (fun _=>by have:=Y.next;omega) ?_ x3 (c2.hb (hb.put y _));rw[c2.get _ (by rw[Ab.Nz];exact y) (fun hx=>by
    have:=row.block hx.1;exact Av this hc (by simp) hx.2.symm)]
   exact Af _ _ _
  ·have:j=xs.length:=a_
   subst this;rw[cF]at row;simp only[J,aA,Aa,Um];rw[row.Fz];rw[List.drop_length]at hc;exact Bgv B E C U g_ K 0 h s q' a_ a_ row new hc x hb
theorem A2y{q c:Nat}(j:h0.get q=some (.cells [.chan c] 199))(f:h0.get c=some (.chan cap (xs.map I)))(y:xs.length<=cap)(A:cap<=4096)(g_:HB h0)(hK:5000<K):
 Ok (Ua K (.ptr q 0) h0) fun v h'=>∃q',Listed h0 h' v c cap xs q':=by
 simp only[Ua,dr];rw[TH j f,Aq,bT];exact Bhc j ⟨_,f⟩ y A g_ hK K 0 h0 .An 0 a_ a_ (.nil _ _ _ _) (fun x=>absurd x (bU _)) f (Aw.refl _) g_
theorem Listed.same{c:Nat}(l:Listed h0 h v c cap xs q')(hc:h0.get c=some (.chan cap (xs.map I))):∀i,i<h0.next->h.get i=h0.get i:=by
 intro i f;by_cases e:i=c
 ·subst e;rw[l.chan,hc]
 ·exact l.chg.get i f e
end
section
theorem Btq:(Eb TT 66 0).2.1 = [9,10]:=by kernel_rfl
theorem Bss:(Eb TT 156 0).2.1 = [19,20]:=by kernel_rfl
section
variable (H:Ca disp)
include H
theorem Bf3(he:1<=e){z x i:Int}(E:h.get l0=some (Au TT 66 14 0 tm .ready none d0))(t3:tmp tm 3=.ptr b3 0)(t4:tmp tm 4=.ptr b4 0)(W:h.get b3=some (.cells [I z] 3))(g4:h.get b4=some (.cells [.bool false] 4))(hb:HB h):
 ∃h',Ag TT disp K (e+1) true l0 [I i,I x] h=some (.bool (decide (¬x=z)),h')/\h'.get l0=some (Au TT 66 14 0 tm (if x=z then .done else .ready) (if x=z then some .ret else none) d0)/\h'.get b4=some (.cells [.bool (decide (x=z))] 4)/\Aw (fun j=>j=l0\/j=b4) h h'/\HB h':=by
 have y:=E;unfold Au at y;rw[Btq]at y;rw[Apj H he tm h (I i) (I x) y,t3,t4];have J:=hb _ _ E;have Y:=hb _ _ g4;have O:l0≠b3:=Av E W (by simp[Au]);have f:l0≠b4:=Av E g4 (by simp[Au]);simp only[JU,T6 E,JT,dr];have L:(h.put l0 (Au TT 66 14 0 tm .busy none d0)).get b3=some (.cells [I z] 3):=by rw[Ae _ O];exact W
 have A:(h.put l0 (Au TT 66 14 0 tm .busy none d0)).get b4=some (.cells [.bool false] 4):=by rw[Ae _ f];exact g4
 have B:(h.put l0 (Au TT 66 14 0 tm .busy none d0)).get l0=some (Au TT 66 14 0 tm .busy none d0):=Af _ _ _;have U:Aw (fun j=>j=l0\/j=b4) h (h.put l0 (Au TT 66 14 0 tm .busy none d0)):=(Aw.refl h).Ao (.inl (.inl rfl)) J _;have C:HB (h.put l0 (Au TT 66 14 0 tm .busy none d0)):=hb.put J _;have n1:(h.put l0 (Au TT 66 14 0 tm .busy none d0)).next=h.next:=rfl
 generalize h.put l0 (Au TT 66 14 0 tm .busy none d0)=h1 at L A B U C n1⊢;simp only[Cy L rfl,Aa,I,Ac];by_cases X:x=z
 ·simp only[X,aB,Aa,aC,aA,bM]
  rw[mF (o:=0) (n:=1) (v:=.bool true) (l':=[.bool true]) A rfl rfl rfl,Pf (by rw[Ae _ (cn f)];exact B)];exact⟨_,rfl,Af _ _ _,by rw[Ae _ f];exact Af _ _ _,(U.Ao (.inl (.inr rfl)) a_ _).Ao (.inl (.inl rfl)) (by rw[Ab.Nz];omega) _,(C.put a_ _).put (by rw[Ab.Nz];omega) _⟩
 ·simp only[X,aA,Aa,aH,aB,ak]
  rw[Pf B];exact⟨_,rfl,Af _ _ _,by rw[Ae _ f];exact A,U.Ao (.inl (.inl rfl)) a_ _,C.put a_ _⟩
theorem Bg4(he:2<=e){l1 d1 b5:Nat}{z x i dd:Int}(hg:h.get l0=some (Au TT 66 14 0 tm .ready none d0))(t3:tmp tm 3=.ptr b3 0)(t4:tmp tm 4=.ptr b4 0)(g3:h.get b3=some (.cells [I z] 3))(g4:h.get b4=some (.cells [.bool false] 4))
 (f:h.get l1=some (Au TT 156 27 0 iH .ready none d1)) (u2:tmp iH 2=.ptr b2 0) (u3:tmp iH 3=.ptr b5 0) (g2:h.get b2=some (.cells [.U5 l0] 159)) (g5:h.get b5=some (.cells [I dd] 3)) (hb:HB h) :
 ∃h',Ag TT disp K (e+1) true l1 [I i,I x] h=some (.bool (decide (¬x=z)),h')/\h'.get l0=some (Au TT 66 14 0 tm (if x=z then .done else .ready) (if x=z then some .ret else none) d0)/\h'.get l1=some (Au TT 156 27 0 iH (if x=z then .done else .ready) (if x=z then some .ret else none) d1) /\
  h'.get b4=some (.cells [.bool (decide (x=z))] 4)/\Aw (fun j=>j=l0\/j=b4\/j=l1) h h'/\HB h':=by
 obtain⟨e,rfl⟩:=d_ e;have C:=f;unfold Au at C;rw[Bss]at C;rw[Amh H a_ iH h (I i) (I x) C,u2,u3];have O:=hb _ _ f;have E:l1≠l0:=Av f hg (by simp[Au]);have A:∀b o,h.get b=some o->(∀st p,o≠Au TT 156 27 0 iH st p d1)->(h.put l1 (Au TT 156 27 0 iH .busy none d1)).get b=some o:=fun b o gb hn=>by
  rw[Ae _ (Av f gb (fun x=>hn _ _ x.symm))];exact gb
 simp only[KW,T6 f,Yf,dr];have q0:=A _ _ hg (by intros;simp[Au]);have q2:=A _ _ g2 (by intros;simp[Au]);have q3:=A _ _ g3 (by intros;simp[Au]);have W:=A _ _ g4 (by intros;simp[Au]);have q5:=A _ _ g5 (by intros;simp[Au]);have X:(h.put l1 (Au TT 156 27 0 iH .busy none d1)).get l1=some (Au TT 156 27 0 iH .busy none d1):=Af _ _ _;have x1:Aw (fun j=>j=l0\/j=b4\/j=l1) h (h.put l1 (Au TT 156 27 0 iH .busy none d1)):=(Aw.refl h).Ao (.inl (.inr (.inr rfl))) O _;have J:HB (h.put l1 (Au TT 156 27 0 iH .busy none d1)):=hb.put O _;have n1:(h.put l1 (Au TT 156 27 0 iH .busy none d1)).next=h.next:=rfl
 generalize h.put l1 (Au TT 156 27 0 iH .busy none d1)=h1 at q0 X q2 q3 W q5 x1 J n1⊢;simp only[Cy q2 rfl,Cy q5 rfl,Aa];have hc:P0 (Ag TT disp K (e+1) false) (Ag TT disp K (e+1) true) (.U5 l0) [I dd,I x] h1=Ag TT disp K (e+1) true l0 [I dd,I x] h1:=rfl;rw[hc];obtain⟨h2,r1,U,L,Y,r5⟩:=Bf3 (K:=K) H (e:=e) a_ (i:=dd) (x:=x) q0 t3 t4 q3 W J;rw[r1,Aq];have B:h2.get l1=some (Au TT 156 27 0 iH .busy none d1):=Aw.at Y J X (fun y=>by
  rcases y with y|y
  ·exact E y
  ·exact Av X W (by simp[Au]) y)
 have n2:=Y.next
 have x2:Aw (fun j=>j=l0\/j=b4\/j=l1) h h2:=x1.trans (Y.mono fun j hj=>hj.elim .inl (fun y=>.inr (.inl y)));by_cases hx:x=z
 ·simp only[hx,aC,aA,aB,bM]at U L⊢
  simp only[Aa];rw[Pf B];refine⟨_,rfl,?_,Af _ _ _,?_,x2.Ao (.inl (.inr (.inr rfl))) a_ _,r5.put a_ _⟩
  ·rw[Ae _ E];exact U
  ·rw[Ae _ (Av B L (by simp[Au]))];exact L
 ·simp only[hx,aH,aA,aB,ak]at U L⊢
  simp only[Aa];rw[Pf B];refine⟨_,rfl,?_,Af _ _ _,?_,x2.Ao (.inl (.inr (.inr rfl))) a_ _,r5.put a_ _⟩
  ·rw[Ae _ E];exact U
  ·rw[Ae _ (Av B L (by simp[Au]))];exact L
end
end
section
structure Bce(h:Ab)(l0 d0:Nat)(tm:Ba)(b3 b4:Nat)(z:Int)(b2:Nat)(found:Bool):Prop where
 lp:h.get l0=some (Au TT 66 14 0 tm (if found then .done else .ready) (if found then some .ret else none) d0)
 c3:h.get b3=some (.cells [I z] 3)
 c4:h.get b4=some (.cells [.bool found] 4)
 c2:h.get b2=some (.cells [.U5 l0] 159)
 hb:HB h
structure zc(tm:Ba)(b3 b4:Nat):Prop where
 t3:tmp tm 3=.ptr b3 0
 t4:tmp tm 4=.ptr b4 0
section
variable (H:Ca disp){z:Int}(T0:zc tm b3 b4){l1 d1:Nat}{b5:Nat}{dd:Int}(u2:tmp iH 2=.ptr b2 0)(u3:tmp iH 3=.ptr b5 0)
include H T0 u2 u3
theorem Bfy(he:3<=e)(hn:xs.length<=4096):∀(m i:Nat) (h:Ab) (s:EV) (q':Nat),xs.length-i<m->i<=xs.length->Bce h l0 d0 tm b3 b4 z b2 false->h.get l1=some (Au TT 156 27 0 iH .ready none d1)->h.get b5=some (.cells [I dd] 3) ->
 Bu h s q' 3 1 xs.length (xs.map I)->(xs.take i).contains z=false ->
 Ok (J9 (Ag TT disp K e false) (Ag TT disp K e true) K m (.U5 l1) s (I xs.length) (I i) h) fun v h'=>v=.tuple []/\Bce h' l0 d0 tm b3 b4 z b2 (xs.contains z)/\h'.get l1=some (Au TT 156 27 0 iH (if xs.contains z then .done else .ready) (if xs.contains z then some .ret else none) d1)/\Aw (fun j=>j=l0\/j=b4\/j=l1) h h':=by
 intro m;induction m with
 | zero=>intro i h s q' hm;omega
 | succ m ih=>
  intro i h s q' hm hi L g1 g5 row f;simp only[J9,I,Ac,Aa];by_cases O:(i:Int)<xs.length
  ·have A:i<xs.length:=a_
   have B:=row.block a_;simp only[O,aB,Aa,L'];rw[row.ix A,Cy B rfl,cD,aY,aF A,eA,G6];obtain⟨e,rfl⟩:=d_ e;have hc:P0 (Ag TT disp K (e+1) false) (Ag TT disp K (e+1) true) (.U5 l1) [I i,I xs[i]] h=Ag TT disp K (e+1) true l1 [I i,I xs[i]] h:=rfl;obtain⟨h2,r1,X,Y,r4,r5,r6⟩:=Bg4 (K:=K) H (e:=e) a_ (i:=i) (x:=xs[i]) L.lp T0.t3 T0.t4 L.c3 L.c4 g1 u2 u3 L.c2 g5 L.hb;have ae:∀k:EV->Ab->R,Al (P0 (Ag TT disp K (e+1) false) (Ag TT disp K (e+1) true) (.U5 l1) [.int .i64 (i:Int),I xs[i]] h) k=k (.bool (decide (¬xs[i]=z))) h2:=fun k=>by
    have:P0 (Ag TT disp K (e+1) false) (Ag TT disp K (e+1) true) (.U5 l1) [.int .i64 (i:Int),I xs[i]] h=some (.bool (decide (¬xs[i]=z)),h2):=hc.trans r1;rw[this,Aq]
   rw[ae];have Hb:∀b o,h.get b=some o->(∀st p,o≠Au TT 66 14 0 tm st p d0)->(∀st p,o≠Au TT 156 27 0 iH st p d1)->(∀v,o≠.cells [v] 4)->h2.get b=some o:=fun b o C n0 n1 n4=>Aw.at r5 L.hb C fun y=>by
    rcases y with rfl|rfl|rfl
    ·rw[L.lp]at C;cases C;exact n0 _ _ rfl
    ·rw[L.c4]at C;cases C;exact n4 _ rfl
    ·rw[g1]at C;cases C;exact n1 _ _ rfl
   have k3:=Hb _ _ L.c3 (by intros;simp[Au]) (by intros;simp[Au]) (by intros;simp);have k2:=Hb _ _ L.c2 (by intros;simp[Au]) (by intros;simp[Au]) (by intros;simp);have k5:=Hb _ _ g5 (by intros;simp[Au]) (by intros;simp[Au]) (by intros;simp);by_cases J:xs[i]=z
   ·have U:xs.contains z=true:=by
     rw[List.contains_iff_mem,<-J];exact aZ A
    simp only[J,bM,aB]at X Y r4;simp only[J,aC,aA,Aa];exact .ret ⟨rfl,by rw[U];exact⟨X,k3,r4,k2,r6⟩,by rw[U];exact Y,r5⟩
   ·simp only[J,ak,aA]at X Y r4
    simp only[J,aH,aB,Aa,LZ,Ac];rw[Ci];have E:Bu h2 s q' 3 1 xs.length (xs.map I):=row.frame fun _=>by
     rw[Hb _ _ B (by intros;simp[Au]) (by intros;simp[Au]) (by intros;simp),B]
    have W:(xs.take (i+1)).contains z=false:=by
     rw[bV A];simp only[List.contains_eq_mem,bO,aP,dM]at f⊢;intro y;rcases y with y|y
     ·exact f y
     ·exact J y.symm
    refine(ih (i+1) h2 s q' a_ a_ ⟨X,k3,r4,k2,r6⟩ Y k5 E W).mono ?_;rintro v h' ⟨a1,a2,a3,a4⟩;exact⟨a1,a2,a3,r5.trans a4⟩
  ·have:i=xs.length:=a_
   subst this;simp only[O,aA,Aa];rw[cF]at f;exact .ret ⟨rfl,by rw[f];exact L,by rw[f];exact g1,Aw.refl _⟩
theorem Bqi(he:3<=e)(hK:5000<K){E q c:Nat}(J:h.get E=some (.cells [.ptr q 0] 166))(hq:h.get q=some (.cells [.chan c] 199))(hc:h.get c=some (.chan cap (xs.map I)))(B:xs.length<=cap)(C:cap<=4096)
 (L:Bce h l0 d0 tm b3 b4 z b2 false) (O:h.get l1=some (Au TT 156 27 0 iH .ready none d1)) (U:h.get b5=some (.cells [I dd] 3)) :
 Ok (Ag TT disp K (e+1) false 190 [.U5 l1,.ptr E 0] h) fun v h'=>Bce h' l0 d0 tm b3 b4 z b2 (xs.contains z)/\h'.get l1=some (Au TT 156 27 0 iH (if xs.contains z then .done else .ready) (if xs.contains z then some .ret else none) d1) /\
  (∀i,i<h.next->¬(i=l0\/i=b4\/i=l1)->h'.get i=h.get i)/\Aw (fun j=>j=c\/j=l0\/j=b4\/j=l1) h h':=by
 rw[Anw H a_];simp only[L_,Cy J rfl,Aa];refine(A2y hq hc B C L.hb hK).Al ?_;rintro s h1 ⟨q',y⟩;rw[y.row.Fz];have same:=y.same hc;have f:∀i o,h.get i=some o->h1.get i=some o:=fun i o g=>by rw[same i (L.hb _ _ g)];exact g
 have W:Bce h1 l0 d0 tm b3 b4 z b2 false:=⟨f _ _ L.lp,f _ _ L.c3,f _ _ L.c4,f _ _ L.c2,y.hb⟩;refine(Bfy (K:=K) H T0 u2 u3 he a_ K 0 h1 s q' a_ a_ W (f _ _ O) (f _ _ U) y.row (by simp)).mono ?_;rintro v h' ⟨_,X,a3,a4⟩;refine⟨X,a3,fun i A hn=>by rw[a4.get i (aL A y.chg.next) hn,same i A],?_⟩;exact(y.chg.mono fun i A=>.inl A).trans (a4.mono fun i A=>.inr A)
end
end
section
def hasB(ps:Nat->List Int)(n:Nat)(z:Int):Bool:=(List.range n).any fun d=>(ps d).contains z
theorem Bgi(ps:Nat->List Int)(n:Nat)(z:Int):hasB ps (n+1) z=(hasB ps n z||(ps n).contains z):=by
 unfold hasB;rw[cu,List.any_append];simp
theorem px{z:Int}:hasB ps n z=true↔∃d,d<n/\z∈ps d:=by
 unfold hasB;simp
theorem Bpm{d:Nat}{z:Int}(hd:d<n)(h:(ps d).contains z=true):hasB ps n z=true:=px.2 ⟨d,hd,List.contains_iff_mem.1 h⟩
structure Mid(h0 h:Ab)(C:Nat->Prop)(l0 d0:Nat)(tm:Ba)(b3 b4:Nat)(z:Int)(b2:Nat)(found:Bool):Prop where
 kp:Kp C h0 h
 look:Bce h l0 d0 tm b3 b4 z b2 found
 cd:h.get d0=some (.deferred true)
 n0:h0.next<=l0
 n4:h0.next<=b4
 nd:h0.next<=d0
section
variable (H:Ca disp){p:Nat}{q c:Nat->Nat}{g:Gm}(P:E8 h0 p ql n q c g ps)(g_:HB h0)(sK:∀d,d<n->(ps d).length<=g.Z.toNat)(hZ:g.Z<=4096)(hn:n<=64)
variable{z:Int}(T0:zc tm b3 b4)
include H P g_ sK hZ hn T0
theorem Bke(he:4<=e)(hK:5000<K):∀(m i:Nat) (h:Ab) (t1:Ba) (ds:List Nat),n-i<m->i<=n->Mid h0 h (fun x=>∃d,d<n/\x=c d) l0 d0 tm b3 b4 z b2 false->tmp t1 2=.ptr b2 0 ->
 ds.Nodup->(∀d∈ds,h.get d=some (.deferred true)/\h0.next<=d/\d≠d0)->hasB ps i z=false ->
 Ok (Mo (Ag TT disp K e false) (Ag TT disp K e true) K m t1 (.slice ql 0 n n true) (I n) (I i) h ds) fun v h'=>Mid h0 h' (fun x=>∃d,d<n/\x=c d) l0 d0 tm b3 b4 z b2 (hasB ps n z):=by
 intro m;induction m with
 | zero=>intro i h t1 ds hm;omega
 | succ m ih=>
  intro i h t1 ds hm hi M u2 ag ab ah;have fin:∀(h2:Ab) (dl:List Nat) (found:Bool),found=hasB ps n z->Mid h0 h2 (fun x=>∃d,d<n/\x=c d) l0 d0 tm b3 b4 z b2 found->dl.Nodup->(∀d∈dl,h2.get d=some (.deferred true)/\h0.next<=d/\d≠d0) ->
   Ok (Dt dl h2 fun h=>some (EV.tuple [],h)) fun v h'=>Mid h0 h' (fun x=>∃d,d<n/\x=c d) l0 d0 tm b3 b4 z b2 (hasB ps n z):=by
   rintro h2 dl found rfl M2 a5 U;refine Ok.unwind a5 (fun d hd=>(U d hd).1) M2.look.hb fun h3 ch bz=>.ret ?_
   have nk:∀b o,h2.get b=some o->o≠.deferred true->¬(b∈dl):=fun b o J f hb=>by rw[(U b hb).1]at J;cases J;exact f rfl
   have a:∀b o,h2.get b=some o->o≠.deferred true->h3.get b=some o:=fun b o J f=>Aw.at ch M2.look.hb J (nk b o J f)
   refine⟨M2.kp.tu ch fun i hi=>(U i hi).2.1,⟨a _ _ M2.look.lp (by simp[Au]),a _ _ M2.look.c3 (by simp),a _ _ M2.look.c4 (by simp),a _ _ M2.look.c2 (by simp),ch.hb M2.look.hb⟩,Aw.at ch M2.look.hb M2.cd (fun y=>(U _ y).2.2 rfl),M2.n0,M2.n4,M2.nd⟩
  simp only[Mo,I,Ac,Aa];by_cases ai:(i:Int)<n
  ·have A:i<n:=a_
   have a6:∀b o,h0.get b=some o->h.get b=some o:=fun b o J=>M.kp.at g_ J
   have P1:=P.ext a6;simp only[ai,aB,Aa,KU];rw[P1.rowAt.ix A,P1.nJ A]
   try simp only[Aa]
   refine Ok.Z7 (Ad _ _) rfl rfl (by show 0<1;decide) ?_;have b7:=M.kp.chg.next
   have x1:Ext h ((h.new (.cells [.int .i64 0] 3)).put h.next (.cells [EV.int .i64 (i:Int)] 3)):=(Aw.new _ _:Ext h _).Ao (.inr (aD _)) (aO _) _;have g5:((h.new (.cells [.int .i64 0] 3)).put h.next (.cells [EV.int .i64 (i:Int)] 3)).get h.next=some (.cells [I i] 3):=Af _ _ _
   simp only[List.set];generalize (h.new (.cells [.int .i64 0] 3)).put h.next (.cells [EV.int .i64 (i:Int)] 3)=h1 at x1 g5⊢
   have ba:=x1.hb M.look.hb;have b8:=x1.next
   simp only[xj,Aa];have x2:Ext h (h1.new (.cells [.ptr (q i) 0] 166)):=x1.Da _;have g6:(h1.new (.cells [.ptr (q i) 0] 166)).get h1.next=some (.cells [.ptr (q i) 0] 166):=Ad _ _
   have aj:(h1.new (.cells [.ptr (q i) 0] 166)).get h.next=some (.cells [I i] 3):=by rw[Az _ (ba _ _ g5)];exact g5
   have n2:h1.next<(h1.new (.cells [.ptr (q i) 0] 166)).next:=aO _
   generalize h1.new (.cells [.ptr (q i) 0] 166)=h2 at x2 g6 aj n2⊢;have bb:=x2.hb M.look.hb;generalize ae:(((((((t1.put 13 (some (EV.bool true))).put 14 (some (EV.int .i64 (i:Int)))).put 15 (some (EV.ptr ql (i*1)))).put 16 (some (EV.ptr (q i) 0))).put 3 (some (EV.ptr h.next 0))).put 4 (some (EV.ptr (q i) 0))).put 17 (some (EV.ptr (q i) 0))).put 18 (some (EV.func 190 [] [EV.ptr h1.next 0]))=t2;have v2:tmp t2 2=.ptr b2 0:=by rw[<-ae];simp only[F1,reduceIte,Nat.reduceEqDiff,u2]
   have v3:tmp t2 3=.ptr h.next 0:=by rw[<-ae];simp only[F1,reduceIte,Nat.reduceEqDiff]
   have bf:∀w,tmp ((t2.put 26 (some w)).put 12 (some w)) 2=.ptr b2 0:=fun w=>by simp only[F1,reduceIte,Nat.reduceEqDiff,v2]
   clear ae;refine Ok.range ?_;have x3:Ext h (Bn TT 156 27 0 t2 h2):=x2.trans Ga;have ao:=x3.hb M.look.hb;have C:∀b o,h.get b=some o->(Bn TT 156 27 0 t2 h2).get b=some o:=fun b o J=>x3.at M.look.hb J
   have Y:∀b o,h2.get b=some o->(Bn TT 156 27 0 t2 h2).get b=some o:=fun b o J=>Ext.at Ga bb J
   have L3:Bce (Bn TT 156 27 0 t2 h2) l0 d0 tm b3 b4 z b2 false:=⟨C _ _ M.look.lp,C _ _ M.look.c3,C _ _ M.look.c4,C _ _ M.look.c2,ao⟩;have P3:=P1.ext C;obtain⟨e,rfl⟩:=d_ e;refine(Bqi (K:=K) H T0 (l1:=h2.next+1) (d1:=h2.next) v2 v3 (e:=e) a_ hK (Y _ _ g6) (P3.que i A) (P3.chan i A) (sK i A) a_ L3 F3 (Y _ _ aj)).mono ?_;rintro v h4 ⟨L4,E,B,au⟩;have cc:=au.next
   have cf:h2.next+1<(Bn TT 156 27 0 t2 h2).next:=by rw[A16];omega
   have bj:Kp (fun x=>∃d,d<n/\x=c d) h0 h4:=by
    refine⟨(M.kp.chg.trans (Ext.to x3)).then au ?_,fun j hj=>?_⟩
    ·rintro j (rfl|rfl|rfl|rfl) hl
     ·exact⟨i,A,rfl⟩
     ·have:=M.n0;omega
     ·have:=M.n4;omega
     ·have:=x2.next;omega
    ·have bk:j<(Bn TT 156 27 0 t2 h2).next:=by have:=x3.next;omega
     rw[B j bk (by rintro(rfl|rfl|rfl)<;>(have:=M.n0;have:=M.n4;have:=x2.next;omega)),x3.get j a_ id];exact M.kp.same j hj
   have bn:h4.get h2.next=some (.deferred true):=by
    rw[B _ a_ ?_]
    ·exact Gw
    ·rintro(y|y|y)
     ·have:=M.look.hb _ _ M.look.lp;omega
     ·have:=M.look.hb _ _ M.look.c4;omega
     ·omega
   have L:∀d,h.get d=some (.deferred true)->h4.get d=some (.deferred true):=fun d gd=>by
    have aw:=C _ _ gd;rw[B d (ao _ _ aw) ?_]
    ·exact aw
    ·rintro(rfl|rfl|rfl)
     ·rw[M.look.lp]at gd;cases gd
     ·rw[M.look.c4]at gd;cases gd
     ·have:=M.look.hb _ _ gd;omega
   have bo:∀o,h4.get (h2.next+1)=some o->∀b o',h4.get b=some o'->(∀st p,o'≠Au TT 156 27 0 t2 st p h2.next)->b≠h2.next+1:=by
    intro o ho b o' O f e';subst e';rw[E]at O;cases O;exact f _ _ rfl
   have W:∀(p5:Option Code),Mid h0 (h4.put (h2.next+1) (Au TT 156 27 0 t2 .exhausted p5 h2.next)) (fun x=>∃d,d<n/\x=c d) l0 d0 tm b3 b4 z b2 ((ps i).contains z):=by
    intro p5;have ax:h2.next+1<h4.next:=a_
    have pn:∀b o',h4.get b=some o'->(∀st p,o'≠Au TT 156 27 0 t2 st p h2.next)->(h4.put (h2.next+1) (Au TT 156 27 0 t2 .exhausted p5 h2.next)).get b=some o':=fun b o' O f=>by
     rw[Ae _ (cn (bo _ E b o' O f))];exact O
    refine⟨bj.Ao (by have:=x2.next;omega) ax _,⟨pn _ _ L4.lp (by intros;simp[Au]),pn _ _ L4.c3 (by intros;simp[Au]),pn _ _ L4.c4 (by intros;simp[Au]),pn _ _ L4.c2 (by intros;simp[Au]),L4.hb.put ax _⟩,pn _ _ (L _ M.cd) (by intros;simp[Au]),M.n0,M.n4,M.nd⟩
   have aa:∀(p5:Option Code),∀d∈h2.next::ds,(h4.put (h2.next+1) (Au TT 156 27 0 t2 .exhausted p5 h2.next)).get d=some (.deferred true)/\h0.next<=d/\d≠d0:=by
    intro p5 d hd;rcases bc.1 hd with rfl|hd
    ·exact⟨by rw[Ae _];exact bn,by have:=x2.next;omega,by have:=M.look.hb _ _ M.cd;omega⟩
    ·obtain⟨a,b,c'⟩:=ab d hd
     exact⟨by rw[Ae _ (by have:=M.look.hb _ _ a;omega)];exact L _ a,b,c'⟩
   have az:(h2.next::ds).Nodup:=cj.2 ⟨fun hd=>by have:=M.look.hb _ _ (ab _ hd).1;omega,ag⟩;cases X:(ps i).contains z with
   | true=>
    rw[X]at E W;refine .inr ⟨E,?_⟩;exact fin _ _ true (Bpm A X).symm (W _) az (aa _)
   | false=>
    rw[X]at E W;refine .inl ⟨E,?_⟩;simp only[Qj,Ac];rw[Ci];exact ih (i+1) _ _ _ a_ a_ (W _) (bf _) az (aa _) (by rw[Bgi,ah,X];rfl)
  ·have:i=n:=a_
   subst this;simp only[ai,aA,Aa];exact fin h ds false ah.symm M ag ab
end
section
variable (H:Ca disp){p:Nat}{q c:Nat->Nat}{g:Gm}(P:E8 h0 p ql n q c g ps)(g_:HB h0)(sK:∀d,d<n->(ps d).length<=g.Z.toNat)(hZ:g.Z<=4096)(hn:n<=64)
include H P g_ sK hZ hn
theorem DJ {d:Nat}(hd:7<=d)(hK:5000<K)(z:Int):Ok (Ag TT disp K d false 66 [.ptr p 0,I z] h0) fun v h'=>v=.bool (hasB ps n z)/\Kp (fun x=>∃d,d<n/\x=c d) h0 h'/\HB h':=by
 obtain⟨e,rfl⟩:∃k,d=k+2:=⟨d-2,a_⟩;rw[Awk H a_];simp only[JS,I,Aa,xi];have x1:Ext h0 (((h0.new (.cells [.int .i64 z] 3)).new (.cells [.bool false] 4)).new (.cells [.ptr p 0] 101)):=((Aw.new _ _).Da _).Da _;have n1:(((h0.new (.cells [.int .i64 z] 3)).new (.cells [.bool false] 4)).new (.cells [.ptr p 0] 101)).next=h0.next+3:=rfl
 have B:(((h0.new (.cells [.int .i64 z] 3)).new (.cells [.bool false] 4)).new (.cells [.ptr p 0] 101)).get (h0.next+2)=some (.cells [.ptr p 0] 101):=Ad _ _;have g4:(((h0.new (.cells [.int .i64 z] 3)).new (.cells [.bool false] 4)).new (.cells [.ptr p 0] 101)).get (h0.next+1)=some (.cells [.bool false] 4):=by
  rw[Az _ (aO _)];exact Ad _ _
 have g3:(((h0.new (.cells [.int .i64 z] 3)).new (.cells [.bool false] 4)).new (.cells [.ptr p 0] 101)).get h0.next=some (.cells [I z] 3):=by
  rw[Az _ (show h0.next<h0.next+2 from a_),Az _ (show h0.next<h0.next+1 from a_)];exact Ad _ _
 have ah:((h0.new (.cells [.int .i64 z] 3)).new (.cells [.bool false] 4)).next=h0.next+2:=rfl
 have ai:(h0.new (.cells [.int .i64 z] 3)).next=h0.next+1:=rfl
 rw[ah,ai];generalize ((h0.new (.cells [.int .i64 z] 3)).new (.cells [.bool false] 4)).new (.cells [.ptr p 0] 101)=h1 at x1 n1 B g4 g3⊢;have O:=x1.hb g_;generalize U:(((((Tr.nil.put 0 (some (EV.ptr p 0))).put 1 (some (EV.int .i64 z))).put 3 (some (EV.ptr h0.next 0))).put 4 (some (EV.ptr (h0.next+1) 0))).put 7 (some (EV.ptr p 0))).put 8 (some (EV.func 156 [] [EV.ptr (h0.next+2) 0]))=tm;have T0:zc tm h0.next (h0.next+1):=⟨by rw[<-U];simp only[F1,reduceIte,Nat.reduceEqDiff],by rw[<-U];simp only[F1,reduceIte,Nat.reduceEqDiff]⟩
 clear U;refine Ok.range ?_;rw[Arh H a_];simp only[KV,Aa];have x2:Ext h1 (Bn TT 66 14 0 tm h1):=Ga;have aa:=x2.hb O;have aj:Pz 159 (.U5 (h1.next+1)) (Bn TT 66 14 0 tm h1)=fun(k:EV->Ab->R)=>k (.ptr (h1.next+2) 0) ((Bn TT 66 14 0 tm h1).new (.cells [.U5 (h1.next+1)] 159)):=rfl
 rw[aj];have x3:Ext h1 ((Bn TT 66 14 0 tm h1).new (.cells [.U5 (h1.next+1)] 159)):=x2.Da _;have k2:((Bn TT 66 14 0 tm h1).new (.cells [.U5 (h1.next+1)] 159)).get (h1.next+2)=some (.cells [.U5 (h1.next+1)] 159):=Ad _ _;have kl:((Bn TT 66 14 0 tm h1).new (.cells [.U5 (h1.next+1)] 159)).get (h1.next+1)=some (Au TT 66 14 0 tm .ready none h1.next):=by rw[Az _ (aa _ _ F3)];exact F3
 have kd:((Bn TT 66 14 0 tm h1).new (.cells [.U5 (h1.next+1)] 159)).get h1.next=some (.deferred true):=by rw[Az _ (aa _ _ Gw)];exact Gw
 generalize (Bn TT 66 14 0 tm h1).new (.cells [.U5 (h1.next+1)] 159)=h3 at x3 k2 kl kd⊢;have al:=x3.hb O;have C:∀b o,h1.get b=some o->h3.get b=some o:=fun b o B=>x3.at O B
 have P3:E8 h3 p ql n q c g ps:=P.ext fun b o B=>C _ _ (x1.at g_ B)
 simp only[Cy (C _ _ B) rfl,Aa,P3.list];have M3:Mid h0 h3 (fun x=>∃d,d<n/\x=c d) (h1.next+1) h1.next tm h0.next (h0.next+1) z (h1.next+2) false:=
  ⟨Ext.kp (x1.trans x3),⟨kl,C _ _ g3,C _ _ g4,k2,al⟩,kd,a_,a_,a_⟩
 refine(Bke (K:=K) H P g_ sK hZ hn T0 (e:=e) a_ hK K 0 h3 _ [] a_ a_ M3 (by simp only[F1,reduceIte,Nat.reduceEqDiff]) cy (fun d hd=>by cases hd) rfl).mono ?_;rintro v h4 j;have ab:=j.look.hb _ _ j.look.lp;have nl:∀b o st J,h4.get b=some o->(∀st p,o≠Au TT 66 14 0 tm st p h1.next)->(h4.put (h1.next+1) (Au TT 66 14 0 tm st J h1.next)).get b=some o:=fun b o st J B ao=>by
  rw[Ae _ (Av j.look.lp B (fun y=>ao _ _ y.symm))];exact B
 have L:∀st J,Kp (fun x=>∃d,d<n/\x=c d) h0 (h4.put (h1.next+1) (Au TT 66 14 0 tm st J h1.next)):=fun st J=>j.kp.Ao a_ ab _
 have E:∀st J,HB (h4.put (h1.next+1) (Au TT 66 14 0 tm st J h1.next)):=fun st J=>j.look.hb.put ab _
 have f:∀(A:Ab) (b:Bool),A.get (h0.next+1)=some (.cells [.bool b] 4)->Gi TT [.c (.ptr (h0.next+1) 0) 4] A=some (.bool b,A):=by
  intro A b hg;have hr:Jn A (h0.next+1) 0 1=some [.bool b]:=by unfold Jn;rw[hg];rfl
  unfold Gi;simp only[j5,show TT.size 4=some 1 by kernel_rfl,show TT.agg 4=some false by kernel_rfl,hr]
 cases hf:hasB ps n z with
 | true=>
  rw[hf]at j;refine .inr ⟨j.look.lp,?_⟩;refine Ok.unwind (cj.2 ⟨by simp,cy⟩) (fun d hd=>by rw[aP]at hd;subst hd;exact nl _ _ _ _ j.cd (by intros;simp[Au])) (E _ _) fun A W aq=>?_
  have X:A.get (h0.next+1)=some (.cells [.bool true] 4):=Aw.at W (E _ _) (nl _ _ _ _ j.look.c4 (by intros;simp[Au])) (by simp;omega);rw[f A true X];exact .ret ⟨rfl,(L _ _).tu W fun i hi=>by rw[aP]at hi;omega,W.hb (E _ _)⟩
 | false=>
  rw[hf]at j;refine .inl ⟨j.look.lp,?_⟩;simp only[xo,dr];refine Ok.Z7 (nl _ _ _ _ j.look.c4 (by intros;simp[Au])) rfl rfl (by show 0<1;decide) ?_;have ad:h0.next+1<(h4.put (h1.next+1) (Au TT 66 14 0 tm .exhausted none h1.next)).next:=j.look.hb _ _ j.look.c4
  have Y:HB ((h4.put (h1.next+1) (Au TT 66 14 0 tm .exhausted none h1.next)).put (h0.next+1) (.cells ([EV.bool false].set 0 (.bool false)) 4)):=(E _ _).put ad _;refine Ok.unwind (cj.2 ⟨by simp,cy⟩) (fun d hd=>by rw[aP]at hd;subst hd;rw[Ae _];exact nl _ _ _ _ j.cd (by intros;simp[Au])) Y fun A W aq=>?_
  have X:A.get (h0.next+1)=some (.cells [.bool false] 4):=Aw.at W Y (Af _ _ _) (by simp;omega);rw[f A false X];exact .ret ⟨rfl,((L _ _).Ao a_ ad _).tu W fun i hi=>by rw[aP]at hi;omega,W.hb Y⟩
end
end
section
def D4(g:Gm)(z:Int):Int:=if z<0\/g.D*g.Z<=z then -1 else z/g.Z
theorem Kb {g:Gm}(s:Sm g)(z:Int)(J : -9223372036854775808<=z/\z<=9223372036854775807)(h:Ab):Ok (Er K (gV g) (I z) h) fun v h'=>v=I (D4 g z)/\Ext h h':=by
 have:=s.d0;have:=s.d1;have:=s.z0;have:=s.z1;obtain⟨L,O⟩:=Rp (a:=g.D) (b:=g.Z) (A:=8) (B:=64);simp only[Er,gV,Aa,I,Ac];have C:(h.new (.cells (gL g) 23)).get h.next=some (.cells (gL g) 23):=Ad _ _
 have hn:h.next<(h.new (.cells (gL g) 23)).next:=aO _
 have y:Ext h (h.new (.cells (gL g) 23)):=Aw.new _ _;generalize h.new (.cells (gL g) 23)=E at C hn y⊢;unfold D4;by_cases h1:z<0
 ·simp only[h1,aB,Aa,Ac,Un]
  exact .ret ⟨by rw[aN (.inl trivial)],y⟩
 ·simp only[h1,aA,Aa,Ac,Cv C rfl,Ai (show(gL g).length=6 from rfl)]
  rw[show EV.agg (gL g)=gV g from rfl,Ot s,Aq];simp only[I,Ac,Un];by_cases h2:g.D*g.Z<=z
  ·simp only[h2,aB,Aa]
   exact .ret ⟨by rw[aN (.inr trivial)],y.Da _⟩
  ·have f:(E.new (.cells (gL g) 23)).get h.next=some (.cells (gL g) 23):=by rw[Az _ hn];exact C
   have j:Ext h (E.new (.cells (gL g) 23)):=y.Da _;generalize E.new (.cells (gL g) 23)=hc at f j⊢;simp only[h2,aA,Aa,HY,Cy f rfl,gL,I];rw[ri a_ a_ a_];exact .ret ⟨by rw[aK (by rintro(x|x)<;>exact x)],j⟩
def upd(ps:Nat->List Int)(d:Nat)(l:List Int):Nat->List Int:=fun e=>if e=d then l else ps e
def mC(n:Nat)(c:Nat->Nat):Nat->Prop:=fun x=>∃d,d<n/\x=c d
def zd:Ds->Prop
 | .chan ..=>False
 | _=>True
theorem E8.vD{p:Nat}{q c:Nat->Nat}{g:Gm}(P:E8 h p ql n q c g ps){b:Nat}(f:h.get b=some o)(j:zd o):¬mC n c b:=by
 rintro⟨d,hd,rfl⟩;rw[P.chan d hd]at f;cases f;exact j
theorem E8.put{p:Nat}{q c:Nat->Nat}{g:Gm}(P:E8 h p ql n q c g ps){d:Nat}(hd:d<n)(l:List Int):E8 (h.put (c d) (.chan g.Z.toNat (l.map I))) p ql n q c g (upd ps d l):=by
 have ne:∀b o,h.get b=some o->zd o->(h.put (c d) (.chan g.Z.toNat (l.map I))).get b=some o:=fun b o j y=>by
  rw[Ae _ (fun e=>P.vD j y ⟨d,hd,e.symm⟩)];exact j
 refine⟨P.pos,ne _ _ P.Gt trivial,ne _ _ P.row trivial,fun e he=>ne _ _ (P.que e he) trivial,fun e he=>?_,P.inj⟩;unfold upd;by_cases f:e=d
 ·subst f;rw[aN rfl];exact Af _ _ _
 ·rw[aK f,Ae _ (fun x=>f (P.inj _ _ he hd x.symm))];exact P.chan e he
theorem E8.kp{S:Nat->Prop}{p:Nat}{q c:Nat->Nat}{g:Gm}(P:E8 h p ql n q c g ps)(hb:HB h)(k:Kp S h h'):E8 h' p ql n q c g ps:=P.ext fun i o g=>k.at hb g
structure Tm(n:Nat)(g:Gm)(ps:Nat->List Int):Prop where
 nd:n=g.D.toNat
 sm:Sm g
 cap:∀d,d<n->(ps d).length<=g.Z.toNat
theorem Tm.bd{g:Gm}(z:Tm n g ps):n<=8/\g.Z<=64/\(n:Int)=g.D:=by
 have:=z.nd;have:=z.sm.d0;have:=z.sm.d1;have:=z.sm.z1;omega
theorem Tm.small{g:Gm}(z:Tm n g ps):y8 n ps:=by
 obtain⟨a,b,_⟩:=z.bd;exact⟨a_,fun d hd=>by have:=z.cap d hd;omega⟩
theorem Tm.upd{g:Gm}(z:Tm n g ps){d:Nat}{l:List Int}(f:l.length<=g.Z.toNat):Tm n g (upd ps d l):=
 ⟨z.nd,z.sm,fun e he=>by unfold Ev.upd;split;exact f;exact z.cap e he⟩
def X3(g:Gm)(n:Nat)(ps:Nat->List Int)(z:Int):Int × (Nat->List Int):=
 if D4 g z<0 then(13,ps)else if hasB ps n z then(16,ps)else
  if(ps (D4 g z).toNat).length<g.Z.toNat then(0,upd ps (D4 g z).toNat (ps (D4 g z).toNat++[z]))else(17,ps)
theorem lU {g:Gm}(s:Sm g)(z:Int):D4 g z = -1\/(0<=D4 g z/\D4 g z<g.D/\D4 g z=z/g.Z/\0<=z/\z<g.D*g.Z):=by
 have:=s.z0;unfold D4;split
 ·exact .inl rfl
 ·refine .inr ⟨Int.ediv_nonneg a_ a_,Int.ediv_lt_of_lt_mul a_ a_,rfl,a_,a_⟩
section
variable (H:Ca disp){p:Nat}{q c:Nat->Nat}{g:Gm}(P:E8 h p ql n q c g ps)(hb:HB h)(Z:Tm n g ps)(hK:5000<K)
include P hb Z hK
theorem wA(d:Int):Ok (Ps K (.ptr p 0) (I d) h) fun v h'=>Aw (mC n c) h h'/\HB h'/\∃x e f,v=.tuple [I x,I e]/\E8 h' p ql n q c g f/\Tm n g f /\
 ((d<0\/(n:Int)<=d)/\x=0/\e=13/\f=ps\/(0<=d/\d<n/\ps d.toNat = []/\x=0/\e=15/\f=ps)\/(0<=d/\d<n/\e=0/\∃r,ps d.toNat=x::r/\f=upd ps d.toNat r)):=by
 simp only[Ps,I,Ac,Aa];by_cases h1:d<0
 ·simp only[h1,aB,Aa,Ac,X8]
  exact .ret ⟨Aw.refl _,hb,0,13,ps,rfl,P,Z,.inl ⟨.inl trivial,rfl,rfl,rfl⟩⟩
 ·simp only[h1,aA,Aa,Ac,P.list,X8]
  by_cases h2:(n:Int)<=d
  ·simp only[h2,aB,Aa]
   exact .ret ⟨Aw.refl _,hb,0,13,ps,rfl,P,Z,.inl ⟨.inr trivial,rfl,rfl,rfl⟩⟩
  ·obtain⟨d,rfl⟩:=bL (show 0<=d from a_)
   have hd:d<n:=a_
   simp only[h2,aA,Aa,K_,P.list];rw[P.rowAt.ix hd];simp only[P.nJ hd];cases j:ps d with
   | nil=>
    rw[take_nil (P.que _ hd) (P.chan _ hd) j];simp only[Aa];exact .ret ⟨Aw.refl _,hb,0,15,ps,rfl,P,Z,.inr (.inl ⟨a_,a_,j,rfl,rfl,rfl⟩)⟩
   | cons x r=>
    rw[take_cons (P.que _ hd) (P.chan _ hd) j];simp only[Aa];have lt:=hb _ _ (P.chan _ hd);refine .ret ⟨(Aw.refl h).Ao (.inl ⟨_,hd,rfl⟩) lt _,hb.put lt _,x,0,upd ps d r,rfl,P.put hd r,Z.upd ?_,.inr (.inr ⟨a_,a_,rfl,r,j,rfl⟩)⟩;have:=Z.cap _ hd;rw[j]at this;simp at this;omega
include H
theorem TO {d:Nat}(hd:8<=d)(z:Int)(W : -9223372036854775808<=z/\z<=9223372036854775807):Ok (Ag TT disp K d false 41 [.ptr p 0,I z] h) fun v h'=>Aw (mC n c) h h'/\HB h'/\v=I (X3 g n ps z).1/\E8 h' p ql n q c g (X3 g n ps z).2/\Tm n g (X3 g n ps z).2:=by
 obtain⟨e,rfl⟩:=d_ d;obtain⟨b1,b2,b3⟩:=Z.bd;rw[As3 H a_];simp only[KH,Aa,P.oY];refine(Kb Z.sm z W h).Al ?_;rintro _ h1 ⟨rfl,C⟩;have A:=C.hb hb;have E:=P.ext fun i o g=>C.at hb g
 simp only[I,Ac];unfold X3;rcases lU Z.sm z with J|⟨d0,d1,d2,d3,d4⟩
 ·rw[J]
  simp only[show(-1:Int)<0 from c_,aB,Aa,bM];exact .ret ⟨Ext.to C,A,rfl,E,Z⟩
 ·have L:¬D4 g z<0:=a_
  simp only[L,aA,Aa,ak];refine(DJ (K:=K) H E A Z.cap a_ a_ (d:=e) a_ hK z).Al ?_;rintro _ h2 ⟨rfl,U,y⟩;have j:=E.kp A U;have B:Aw (mC n c) h h2:=(Ext.to C).trans U.chg;cases X:hasB ps n z with
  | true=>
   simp only[Aa,bM];exact .ret ⟨B,y,rfl,j,Z⟩
  | false=>
   have f:(D4 g z).toNat<n:=a_
   simp only[Aa,KG,j.list];rw[show D4 g z=((D4 g z).toNat:Int) from a_,j.rowAt.ix f];simp only[j.nJ f,bJ];have lt:=y _ _ (j.chan _ f);by_cases O:(ps (D4 g z).toNat).length<g.Z.toNat
   ·rw[za (j.que _ f) (j.chan _ f) z O,Aq]
    rw[aN O];refine .ret ⟨B.Ao (.inl ⟨_,f,rfl⟩) lt _,y.put lt _,rfl,j.put f _,Z.upd ?_⟩;rw[aE];simp;omega
   ·rw[Brp (j.que _ f) (j.chan _ f) z a_,Aq]
    rw[aK O];exact .ret ⟨B,y,rfl,j,Z⟩
end
end
section
def Tf(z:Int)(xs:List Int):List Int:=xs.filter fun x=>decide (¬x=z)
theorem Bmu(z x:Int)(r:List Int):Tf z (x::r)=(if x=z then[]else[x])++Tf z r:=by
 unfold Tf;rw[fU];by_cases h:x=z<;>simp[h]
theorem Bc2(z:Int)(a b:List Int):Tf z (a++b)=Tf z a++Tf z b:=eV ..
theorem TQ(z:Int)(xs:List Int):(Tf z xs).length<=xs.length:=eW _ _
section
variable (H:Ca disp)(hK:5000<K)
include H hK
theorem Bih(he:1<=e){q c:Nat}{z:Int}(y:h0.get q=some (.cells [.chan c] 199))(f:∃b,h0.get c=some (.chan cap b))(J:h0.get b3=some (.cells [I z] 3))(ae:xs.length<=cap)(ag:cap<=4096)(g_:HB h0):∀(m i:Nat) (h:Ab),xs.length-i<m->i<=xs.length ->
 h.get c=some (.chan cap ((xs.drop i++Tf z (xs.take i)).map I))->Aw (fun j=>j=c) h0 h->HB h ->
 Ok (K3 (Ag TT disp K e false) (Ag TT disp K e true) K m (.ptr q 0) (.func 183 [] [.ptr b3 0]) (I ((i:Int)-(Tf z (xs.take i)).length)) (I xs.length) (I i) h) fun v h'=>v=I ((xs.length:Int)-(Tf z xs).length)/\h'.get c=some (.chan cap ((Tf z xs).map I))/\Aw (fun j=>j=c) h0 h'/\HB h':=by
 obtain⟨b0,f⟩:=f;have L:q≠c:=Av y f (by simp);have aa:b3≠c:=Av J f (by simp);have lc:=g_ _ _ f;intro m;induction m with
 | zero=>intro i h hm;omega
 | succ m ih=>
  intro i h hm hi hc x hb;simp only[K3,I,Ac,Aa];by_cases O:(i:Int)<xs.length
  ·have U:i<xs.length:=a_
   have hq:h.get q=some (.cells [.chan c] 199):=Aw.at x g_ y L;have W:c<h.next:=aL lc x.next
   have ed:xs.drop i=xs[i]::xs.drop (i+1):=cv U;have E:Tf z (xs.take (i+1))=Tf z (xs.take i)++(if xs[i]=z then[]else[xs[i]]):=by
    rw[bV U,Bc2,Bmu];simp[Tf]
   rw[ed,List.cons_append]at hc;have bl:=TQ z (xs.take i);rw[bH]at bl;simp only[O,aB,Aa,JZ];rw[take_cons hq hc rfl];simp only[Aa,I,Ac,aC,aA,JY];have X:Aw (fun j=>j=c) h0 (h.put c (.chan cap ((xs.drop (i+1)++Tf z (xs.take i)).map I))):=x.Ao (.inl rfl) W _;have A:HB (h.put c (.chan cap ((xs.drop (i+1)++Tf z (xs.take i)).map I))):=hb.put W _;have B:(h.put c (.chan cap ((xs.drop (i+1)++Tf z (xs.take i)).map I))).get c=some (.chan cap ((xs.drop (i+1)++Tf z (xs.take i)).map I)):=Af _ _ _;have ab:(h.put c (.chan cap ((xs.drop (i+1)++Tf z (xs.take i)).map I))).next=h.next:=rfl
   generalize h.put c (.chan cap ((xs.drop (i+1)++Tf z (xs.take i)).map I))=h2 at X A B ab⊢;have g3:h2.get b3=some (.cells [I z] 3):=Aw.at X g_ J aa;have C:P0 (Ag TT disp K e false) (Ag TT disp K e true) (.func 183 [] [.ptr b3 0]) [.int .i64 xs[i]] h2=some (.bool (decide (¬xs[i]=z)),h2):=by
    show Ag TT disp K e false 183 [.int .i64 xs[i],.ptr b3 0] h2=_;rw[Ao7 H he];simp only[JE,Cy g3 rfl,Aa,I,Ac]
   rw[C,Aq];by_cases Y:xs[i]=z
   ·rw[aN Y,cW]at E
    simp only[Y,aC,aA,Aa,Ac,O5];rw[Ci (n:=(i:Int)-(Tf z (xs.take i)).length+1),Ci (n:=(i:Int)+1)];have:=ih (i+1) h2 a_ a_ (by rw[E];exact B) X A;rw[E]at this;have e3:(i:Int)-(Tf z (xs.take i)).length+1=((i+1:Nat):Int)-(Tf z (xs.take i)).length:=a_
    rw[e3];exact this
   ·rw[aK Y]at E
    simp only[Y,aH,aB,Aa,Ac,JX];have ad:h2.get q=some (.cells [.chan c] 199):=Aw.at X g_ y L;rw[show EV.int .i64 xs[i]=I xs[i]from rfl,za ad B xs[i] (by rw[aE,aU];omega),Aq];simp only[O5,Ac];rw[Ci (n:=(i:Int)+1)];have:=ih (i+1) (h2.put c (.chan cap ((xs.drop (i+1)++Tf z (xs.take i)++[xs[i]]).map I))) a_ a_ (by rw[E,<-bQ];exact Af _ _ _) (X.Ao (.inl rfl) a_ _) (A.put a_ _);rw[E,aE]at this;have e3:(i:Int)-(Tf z (xs.take i)).length=((i+1:Nat):Int)-((Tf z (xs.take i)).length+[xs[i]].length:Nat):=by simp;omega
    rw[e3];exact this
  ·have:i=xs.length:=a_
   subst this;rw[List.drop_length,cS,cF]at hc;rw[cF];simp only[O,aA,Aa,Ur];exact .ret ⟨rfl,hc,x,hb⟩
theorem Bqm{p:Nat}{q c:Nat->Nat}{g:Gm}(P:E8 h p ql n q c g ps)(hb:HB h)(Z:Tm n g ps){d:Nat}(hd:4<=d)(z:Int)(hz : -9223372036854775808<=z/\z<=9223372036854775807):
 Ok (Ag TT disp K d false 142 [.ptr p 0,I z] h) fun v h'=>(∃e,v=I e)/\Aw (mC n c) h h'/\HB h'/\E8 h' p ql n q c g (if D4 g z<0 then ps else upd ps (D4 g z).toNat (Tf z (ps (D4 g z).toNat)))/\Tm n g (if D4 g z<0 then ps else upd ps (D4 g z).toNat (Tf z (ps (D4 g z).toNat))):=by
 obtain⟨e,rfl⟩:∃k,d=k+2:=⟨d-2,a_⟩;obtain⟨b1,b2,b3⟩:=Z.bd;rw[Asw H a_];simp only[JW,I,Aa];obtain⟨h1,e_,X,Y,n1⟩:=nW h (.cells [.int .i64 z] 3);rw[e_];have B:=X.hb hb;have P1:=P.ext fun i o g=>X.at hb g
 have lp:=B _ _ P1.Gt;have l3:=B _ _ Y;simp only[Aa,Ar,Cj lp,Cj l3,P1.oY,Cy Y rfl];refine Ok.bE (Kb Z.sm z hz _) (fun _ _ p=>p.2) ?_;rintro _ _ h2 ⟨rfl,_⟩ _ W;have C:=W.hb B;have A:=P1.ext fun i o g=>W.at B g
 have J:=X.trans W;simp only[I,Ac];rcases lU Z.sm z with ab|⟨d0,d1,d2,d3,d4⟩
 ·rw[ab]
  simp only[show(-1:Int)<0 from c_,aB,Aa,Ac,bM,R7];exact .ret ⟨⟨15,rfl⟩,Ext.to J,C,A,Z⟩
 ·have L:¬D4 g z<0:=a_
  simp only[L,aA,Aa,Ac,ak,A.list];generalize au:D4 g z=dm at d0 d1 L;obtain⟨dn,rfl⟩:=bL d0;have f:dn<n:=a_
  rw[A.rowAt.ix f];simp only[A.nJ f,bJ];rw[Aon H a_];simp only[J',dr];rw[A.len f,Aq];have O:=A.chan _ f;have:=Bih (K:=K) H hK (e:=e) a_ (z:=z) (xs:=ps dn) (A.que _ f) ⟨_,O⟩ (W.at B Y) (Z.cap _ f) a_ C K 0 h2 (by have:=Z.cap _ f;omega) a_ (by rw[dK,gK,show Tf z [] = []from rfl,cW];exact O) (Aw.refl _) C;refine Ok.Al (P:=fun v h'=>v=I (((ps dn).length:Int)-(Tf z (ps dn)).length)/\h'.get (c dn)=some (.chan g.Z.toNat ((Tf z (ps dn)).map I))/\Aw (fun j=>j=c dn) h2 h'/\HB h') this ?_;rintro _ h3 ⟨rfl,ae,x3,U⟩;simp only[Ac,I];have ch:Aw (mC n c) h h3:=(Ext.to J).trans (x3.mono fun i hi=>⟨dn,f,hi⟩);have P3:E8 h3 p ql n q c g (upd ps dn (Tf z (ps dn))):=by
   have ne:∀b o,h2.get b=some o->zd o->h3.get b=some o:=fun b o gb ho=>Aw.at x3 C gb fun e=>A.vD gb ho ⟨dn,f,e⟩
   refine⟨A.pos,ne _ _ A.Gt trivial,ne _ _ A.row trivial,fun e he=>ne _ _ (A.que e he) trivial,fun e he=>?_,A.inj⟩;unfold upd;by_cases E:e=dn
   ·subst E;rw[aN rfl];exact ae
   ·rw[aK E];exact Aw.at x3 C (A.chan e he) fun y=>E (A.inj _ _ he f y)
  have Z3:Tm n g (upd ps dn (Tf z (ps dn))):=Z.upd (bN (TQ _ _) (Z.cap _ f));by_cases h0:((ps dn).length:Int)-(Tf z (ps dn)).length=0
  ·simp only[h0,aB,R7,Aa]
   exact .ret ⟨⟨15,rfl⟩,ch,U,P3,Z3⟩
  ·simp only[h0,aA,R7,Aa,JV]
   exact .ret ⟨⟨0,rfl⟩,ch,U,P3,Z3⟩
end
theorem ze(ps:Nat->List Int)(b:Int):∀n,(Fq ps b n = -1/\∀d:Nat,d<n->(d:Int)=b)\/(0<=Fq ps b n/\Fq ps b n<n/\¬Fq ps b n=b/\∀d:Nat,d<n->(d:Int)=b\/(ps d).length<=(ps (Fq ps b n).toNat).length)
 | 0=>.inl ⟨rfl,fun d hd=>absurd hd (cT _)⟩
 | n+1=>by
  have A:=ze ps b n;rw[y7];unfold sI;rcases A with⟨f,j⟩|⟨f,j,a3,a4⟩
  ·by_cases hb:(n:Int)=b
   ·rw[aK (fun x=>x.1 hb)]
    exact .inl ⟨f,fun d hd=>by rcases eE.1 hd with h|h;exact j d h;subst h;exact hb⟩
   ·rw[aN ⟨hb,.inl a_⟩]
    refine .inr ⟨a_,a_,hb,fun d hd=>?_⟩;rcases eE.1 hd with h|h
    ·exact .inl (j d h)
    ·subst h;exact .inr (by simp)
  ·by_cases hc:¬(n:Int)=b/\(Fq ps b n<0\/(ps (Fq ps b n).toNat).length<(ps n).length)
   ·rw[aN hc]
    refine .inr ⟨a_,a_,hc.1,fun d hd=>?_⟩;rcases eE.1 hd with h|h
    ·rcases a4 d h with y|y
     ·exact .inl y
     ·refine .inr ?_
      rcases hc.2 with z|z
      ·omega
      ·simp only[bJ];omega
    ·subst h;exact .inr (by simp)
   ·rw[aK hc]
    refine .inr ⟨f,a_,a3,fun d hd=>?_⟩;rcases eE.1 hd with h|h
    ·exact a4 d h
    ·subst h
     by_cases hb:(d:Int)=b
     ·exact .inl hb
     ·exact .inr (by have:¬(ps (Fq ps b d).toNat).length<(ps d).length:=fun y=>hc ⟨hb,.inr y⟩;omega)
theorem TR{a:Nat}:∀n,(∀d,d<n->d=a\/ps d = [])->jf ps n<=(ps a).length
 | 0,_=>by unfold jf;simp
 | n+1,h=>by
  rw[sJ];rcases h n (aO _)with e|e
  ·subst e
   have:jf ps n=0:=by
    have:∀k,k<=n->jf ps k=0:=by
     intro k j;induction k with
     | zero=>rfl
     | succ k f=>
      rw[sJ,f a_];rcases h k a_ with e|e
      ·omega
      ·rw[e];rfl
    exact this n (aD _)
   omega
  ·rw[e];have:=TR (a:=a) n fun d hd=>h d (fP hd);simp;omega
theorem TS(h:Z9 ps n≠0)(X:0<=Z9 ps n):∃a b:Nat,Fq ps (-1) n=a/\Fq ps a n=b/\a<n/\b<n/\a≠b/\ps a≠[]/\ps b≠[]:=by
 have f:0<Z9 ps n:=a_
 unfold Z9 at f;rw[Int.lt_min]at f;obtain⟨p1,O⟩:=f;rcases ze ps (-1) n with⟨U,C⟩|⟨U,C,_,a4⟩
 ·have:n=0:=by
   cases n with
   | zero=>rfl
   | succ n=>have:=C 0 a_;omega
  subst this;unfold jf at p1;simp at p1
 ·obtain⟨a,W⟩:=bL U
  rw[W]at C a4 O;have E:a<n:=a_
  have e1:mB ps n a=(ps a).length:=by unfold mB;rw[aN a_];rfl
  rw[e1]at O;have hex:∃d,d<n/\d≠a/\ps d≠[]:=by
   apply Classical.byContradiction;intro J;have:=TR (ps:=ps) (a:=a) n fun d hd=>by
    by_cases A:d=a
    ·exact .inl A
    ·refine .inr (Classical.byContradiction fun j=>J ⟨d,hd,A,j⟩)
   omega
  obtain⟨d,hd,A,j⟩:=hex;have L:ps a≠[]:=fun e=>by
   rcases a4 d hd with y|y
   ·omega
   ·rw[bJ,e]at y;exact j (bh.1 (by simpa using y))
  rcases ze ps a n with⟨b1,b2⟩|⟨b1,b2,b3,b4⟩
  ·have:=b2 d hd;omega
  ·obtain⟨b,B⟩:=bL b1
   rw[B]at b2 b3 b4;refine⟨a,b,W,B,E,a_,a_,L,fun e=>?_⟩;rcases b4 d hd with y|y
   ·omega
   ·rw[bJ,e]at y;exact j (bh.1 (by simpa using y))
theorem TU:0<=Z9 ps n:=by
 unfold Z9;have:mB ps n (Fq ps (-1) n)<=jf ps n:=by
  unfold mB;split
  next h=>
   have:∀m d,d<m->(ps d).length<=jf ps m:=by
    intro m;induction m with
    | zero=>intro d hd;omega
    | succ m f=>
     intro d hd;rw[sJ];rcases eE.1 hd with h|h
     ·have:=f d h;omega
     ·subst h;omega
   exact this n _ a_
  ·omega
 omega
section
variable{p:Nat}{q c:Nat->Nat}{g:Gm}(P:E8 h p ql n q c g ps)(hb:HB h)(Z:Tm n g ps)(hK:5000<K)
include P hb Z hK
theorem Bo9:Ok (Yw K (.ptr p 0) h) fun v h'=>Aw (mC n c) h h'/\HB h'/\((Z9 ps n=0/\v=.tuple [I 0,I 0,I 15]/\E8 h' p ql n q c g ps) \/
 ∃(a b:Nat) (x y:Int) (r s:List Int),¬Z9 ps n=0/\Fq ps (-1) n=a/\Fq ps a n=b/\a<n/\b<n/\a≠b/\ps a=x::r/\ps b=y::s/\v=.tuple [I x,I y,I 0]/\E8 h' p ql n q c g (upd (upd ps a r) b s)/\Tm n g (upd (upd ps a r) b s)):=by
 obtain⟨b1,b2,b3⟩:=Z.bd;simp only[Yw,dr];refine(DK P hb Z.small).Al ?_;rintro _ h1 ⟨rfl,E⟩;have f:=E.hb hb;have J:=P.ext fun i o g=>E.at hb g
 simp only[I,Ac];by_cases L:Z9 ps n=0
 ·simp only[L,aB,Aa]
  exact .ret ⟨Ext.to E,f,.inl ⟨trivial,rfl,J⟩⟩
 ·simp only[L,aA,Aa,LH]
  obtain⟨a,b,ha,B,O,U,C,W,g_⟩:=TS L TU;refine(y9 J f a_ a_ (-1)).Al ?_;rintro _ h2 ⟨rfl,X⟩;have j:=X.hb f;have P2:=J.ext fun i o g=>X.at f g
  rw[ha];refine(y9 P2 j a_ a_ a).Al ?_;rintro _ h3 ⟨rfl,Y⟩;have aa:=Y.hb j;have P3:=P2.ext fun i o g=>Y.at j g
  rw[B];refine(wA P3 aa Z hK a).Al ?_;rintro _ h4 ⟨c4,ab,x,e,A,rfl,P4,Z4,hh⟩;have hx:e=0/\∃r,ps a=x::r/\A=upd ps a r:=by
   rcases hh with⟨y,_⟩|⟨_,_,y,_⟩|⟨_,_,y,z⟩
   ·omega
   ·rw[bJ]at y;exact absurd y W
   ·rw[bJ]at z;exact⟨y,z⟩
  obtain⟨rfl,r,ae,rfl⟩:=hx;simp only[Aa];refine(wA P4 ab Z4 hK b).Al ?_;rintro _ h5 ⟨c5,af,y,e,A,rfl,P5,Z5,hh⟩;have eb:upd ps a r b=ps b:=by unfold upd;rw[aK (cn C)]
  have hy:e=0/\∃s,ps b=y::s/\A=upd (upd ps a r) b s:=by
   rcases hh with⟨w,_⟩|⟨_,_,w,_⟩|⟨_,_,w,z⟩
   ·omega
   ·rw[bJ,eb]at w;exact absurd w g_
   ·rw[bJ,eb]at z;exact⟨w,z⟩
  obtain⟨rfl,s,ag,rfl⟩:=hy;simp only[Aa,I,Ac,aC,aA,LG];refine .ret ⟨(Ext.to (E.trans (X.trans Y))).trans (c4.trans c5),af,.inr ⟨a,b,x,y,r,s,not_false,rfl,B,O,U,C,ae,ag,rfl,P5,Z5⟩⟩
end
end
def Ki(st:Nat):Int:=if st=4 then 32 else if st=3 then 30 else 0
theorem zf{z q:Nat}{size:Int}{Z:Zn}(f:Fk h z q size Z):Ee K (.ptr z 0) h=some (I Z.st,h):=by
 obtain⟨s,g,_⟩:=f.Am;simp only[Ee,Aa,Cy g rfl]
theorem X4{z q:Nat}{size:Int}{Z:Zn}(j:Fk h z q size Z):D7 K (.ptr z 0) h=some (I (Ki Z.st),h):=by
 obtain⟨s,g,_⟩:=j.Am;simp only[D7,Aa,Cy g rfl,I,Ac];unfold Ki;by_cases h4:Z.st=4
 ·have:decide ((Z.st:Int)=4)=true:=by simp[h4]
  rw[this,aN h4];simp only[Aa]
 ·have a:decide ((Z.st:Int)=4)=false:=by simp;omega
  rw[a,aK h4];simp only[Aa,Ac];by_cases f:Z.st=3
  ·have:decide ((Z.st:Int)=3)=true:=by simp[f]
   rw[this,aN f];simp only[Aa]
  ·have b:decide ((Z.st:Int)=3)=false:=by simp;omega
   rw[b,aK f];simp only[Aa,Ac,Oh]
theorem Fk.ext{z q:Nat}{size:Int}{Z:Zn}(d:Fk h z q size Z)(g:∀i o,h.get i=some o->h'.get i=some o):Fk h' z q size Z:=by
 obtain⟨s,a,b⟩:=d.Am;exact⟨⟨s,g _ _ a,b.frame fun f=>by rw[g _ _ (b.block f),b.block f]⟩,d.wf⟩
def Zn.app(Z:Zn)(size:Nat)(x:List EV):Zn:=⟨Z.l++[x],Z.safe,if Z.l.length+1=size then 2 else 1,Z.fin⟩
theorem Azz{z q size:Nat}{Z:Zn}(zz:Fk h z q size Z)(hb:HB h)(a2:Z.st<2)(W:Z.l.length<=64)(Y:x.length=64):
 Ok (D6 K (.ptr z 0) (.agg x) h) fun v h'=>v=.tuple [I Z.l.length,I 0]/\(∃q',Fk h' z q' size (Z.app size x)/\h.next<=q')/\Aw (fun i=>i=z\/(0<Z.l.length/\i=q)) h h'/\HB h':=by
 obtain⟨s,g,r⟩:=zz.Am;simp only[D6,Aa];obtain⟨h1,e_,x1,g3,n1⟩:=nW h (.cells x 32);rw[e_];have j:=x1.hb hb;have z1:Fk h1 z q size Z:=zz.ext fun i o g=>x1.at hb g
 have g1:=x1.at hb g;have r1:Bu h1 s q 32 64 Z.l.length Z.l.flatten:=r.frame fun W=>by rw[x1.at hb (r.block W),r.block W]
 rw[X4 z1,Aq];have hf:Ki Z.st=0:=by unfold Ki;rw[aK a_,aK a_]
 rw[hf];have h2:¬(Z.st:Int)=2:=a_
 simp only[Ac,I,aC,aA,Aa,Il,Cy g1 rfl,h2,Ob];have lz:=j _ _ g1;have l3:=j _ _ g3;simp only[Aa,Ar,Cj lz,Cj l3,Cy g1 rfl,Cv g3 rfl,Ai Y];rw[Wq (z:=List.replicate 64 (.int .u8 0)) rfl (by simp) (by exact Y),Aq];obtain⟨f,e_,x2,gx,n2⟩:=nW h1 (.cells (EV.cells (.agg x)) 32);rw[e_];have C:=x2.hb j;have g2:=x2.at j g1;have r2:Bu f.lift s q 32 64 Z.l.length Z.l.flatten:=(r1.frame (h':=f) fun W=>by rw[x2.at j (r1.block W),r1.block W]).frame fun _=>Bv _ _
 obtain⟨h3,e3,r3,n3,c3⟩:=pD (x:=.slice h1.next 0 1 1 false) (n:=1) r2 rfl a_ a_ a_ (Yx (b:=h1.next) (by rw[Bv];exact gx) Y) (by rw[Y]);refine Ok.bC (S:=fun i=>0<Z.l.length/\i=q) (P:=fun v h'=>v=.slice f.lift.next 0 (Z.l.length+1) (Z.l.length+1) true/\h'=h3) ⟨_,_,e3,rfl,rfl⟩ (fun _ _ p=>by rw[p.2];exact c3) ?_;rintro _ _ h4 s' ⟨rfl,rfl⟩ sm x4 ao;have ad:=x4.hb C;rw[rh]at r3 n3;rw[rh];have aq:¬(0<Z.l.length/\z=q):=fun y=>by
  have:=r1.block y.1;exact Av g1 this (by simp) y.2
 have g4:h4.get z=some (.cells [s,I size,I Z.safe,I Z.st,.bool Z.fin] 176):=Aw.at x4 C g2 aq;have r4:Bu h4 (.slice f.next 0 (Z.l.length+1) (Z.l.length+1) true) f.next 32 64 (Z.l.length+1) (Z.l.flatten++x):=r3.frame fun _=>sm.get _
 have A:z<h4.next:=ad _ _ g4
 try simp only[Aa]
 rw[Hc (by rcases ao with rfl|⟨w,rfl,_⟩<;>kernel_rfl)];refine Ok.Z7 g4 rfl rfl (by show 0<5;decide) ?_;refine Ok.Z7 (Af _ _ _) rfl rfl (by show 3<5;decide) ?_;simp only[List.set,Aa];have E:f.next≠z:=by have:=C _ _ g2;omega
 have J:z<((h4.put z (.cells [EV.slice f.next 0 (Z.l.length+1) (Z.l.length+1) true,I size,I Z.safe,I Z.st,.bool Z.fin] 176)).put z (.cells [EV.slice f.next 0 (Z.l.length+1) (Z.l.length+1) true,I size,I Z.safe,.int .i64 1,.bool Z.fin] 176)).next:=A
 have hq:h.next<=f.next:=a_
 have r5:∀o1 B,Bu ((h4.put z o1).put z B) (.slice f.next 0 (Z.l.length+1) (Z.l.length+1) true) f.next 32 64 (Z.l.length+1) (Z.l.flatten++x):=fun o1 B=>r4.frame fun _=>by rw[Ae _ (cn E),Ae _ (cn E)]
 have ch:∀o1 B,Aw (fun i=>i=z\/(0<Z.l.length/\i=q)) h ((h4.put z o1).put z B):=fun o1 B=>((((Ext.to (x1.trans x2)).trans (x4.mono fun i hi=>.inr hi)).Ao (.inl (.inl rfl)) A _).Ao (.inl (.inl rfl)) A _)
 have au:∀o1 B,HB ((h4.put z o1).put z B):=fun o1 B=>(ad.put A _).put A _
 have gz:((h4.put z (.cells [EV.slice f.next 0 (Z.l.length+1) (Z.l.length+1) true,I size,I Z.safe,I Z.st,.bool Z.fin] 176)).put z (.cells [EV.slice f.next 0 (Z.l.length+1) (Z.l.length+1) true,I size,I Z.safe,.int .i64 1,.bool Z.fin] 176)).get z=some (.cells [EV.slice f.next 0 (Z.l.length+1) (Z.l.length+1) true,I size,I Z.safe,.int .i64 1,.bool Z.fin] 176):=Af _ _ _;have L:=r5 (.cells [EV.slice f.next 0 (Z.l.length+1) (Z.l.length+1) true,I size,I Z.safe,I Z.st,.bool Z.fin] 176) (.cells [EV.slice f.next 0 (Z.l.length+1) (Z.l.length+1) true,I size,I Z.safe,.int .i64 1,.bool Z.fin] 176);have O:=ch (.cells [EV.slice f.next 0 (Z.l.length+1) (Z.l.length+1) true,I size,I Z.safe,I Z.st,.bool Z.fin] 176) (.cells [EV.slice f.next 0 (Z.l.length+1) (Z.l.length+1) true,I size,I Z.safe,.int .i64 1,.bool Z.fin] 176);have U:=au (.cells [EV.slice f.next 0 (Z.l.length+1) (Z.l.length+1) true,I size,I Z.safe,I Z.st,.bool Z.fin] 176) (.cells [EV.slice f.next 0 (Z.l.length+1) (Z.l.length+1) true,I size,I Z.safe,.int .i64 1,.bool Z.fin] 176);generalize (h4.put z (.cells [EV.slice f.next 0 (Z.l.length+1) (Z.l.length+1) true,I size,I Z.safe,I Z.st,.bool Z.fin] 176)).put z (.cells [EV.slice f.next 0 (Z.l.length+1) (Z.l.length+1) true,I size,I Z.safe,.int .i64 1,.bool Z.fin] 176)=h5 at gz L O U J⊢;simp only[Cy gz rfl,Aa,I,Ac];have fin:∀(st:Nat) (X:Ab),st=(Z.app size x).st->X.get z=some (.cells [EV.slice f.next 0 (Z.l.length+1) (Z.l.length+1) true,I size,I Z.safe,I st,.bool Z.fin] 176)->Bu X (.slice f.next 0 (Z.l.length+1) (Z.l.length+1) true) f.next 32 64 (Z.l.length+1) (Z.l.flatten++x)->Aw (fun i=>i=z\/(0<Z.l.length/\i=q)) h X->HB X ->
  Ok (H9 K (.ptr z 0) X) fun v h'=>v=.tuple [I Z.l.length,I 0]/\(∃q',Fk h' z q' size (Z.app size x)/\h.next<=q')/\Aw (fun i=>i=z\/(0<Z.l.length/\i=q)) h h'/\HB h':=by
  rintro st X rfl g6 r6 c6 aw;simp only[H9,Aa,Cy g6 rfl,I,Ac];rw[Ci,show((Z.l.length+1:Nat):Int)-1=(Z.l.length:Int) from a_];refine .ret ⟨rfl,⟨f.next,⟨⟨_,g6,?_⟩,fun y hy=>by
   rcases bO.1 hy with hy|hy
   ·exact zz.wf y hy
   ·rw[aP.1 hy];exact Y⟩,hq⟩,c6,aw⟩
  have e1:(Z.app size x).l.length=Z.l.length+1:=by simp[Zn.app]
  have e2:(Z.app size x).l.flatten=Z.l.flatten++x:=by simp[Zn.app]
  rw[e1,e2];exact r6
 by_cases hs:Z.l.length+1=size
 ·have:((Z.l.length+1:Nat):Int)=(size:Int):=a_
  simp only[this,aB,Aa];refine Ok.Z7 gz rfl rfl (by show 3<5;decide) ?_;refine fin 2 _ (by simp[Zn.app,hs]) (Af _ _ _) (L.frame fun _=>Ae _ (cn E)) (O.Ao (.inl (.inl rfl)) J _) (U.put J _)
 ·have:¬((Z.l.length+1:Nat):Int)=(size:Int):=a_
  simp only[this,aA,Aa];exact fin 1 _ (by simp[Zn.app,hs]) gz L O U
theorem A08{z q:Nat}{size:Int}{Z:Zn}(A:Fk h z q size Z)(hb:HB h)(B:2<=Z.st)(h4:Z.st<=4)(x:List EV):
 Ok (D6 K (.ptr z 0) (.agg x) h) fun v h'=>v=.tuple [I 0,I (if Z.st=2 then 17 else Ki Z.st)]/\Ext h h':=by
 simp only[D6,Aa];obtain⟨h1,C,f,_,_⟩:=nW h (.cells x 32);rw[C];have z1:Fk h1 z q size Z:=A.ext fun i o g=>f.at hb g
 rw[X4 z1,Aq];obtain⟨s,g,_⟩:=z1.Am;by_cases h2:Z.st=2
 ·have j:Ki Z.st=0:=by unfold Ki;rw[aK a_,aK a_]
  have y:(Z.st:Int)=2:=a_
  rw[j];simp only[Ac,I,aC,aA,Aa,Il,Cy g rfl,y,aB,h2,bM];exact .ret ⟨rfl,f⟩
 ·have j:¬Ki Z.st=0:=by
   unfold Ki;split
   ·decide
   ·split
    ·decide
    ·omega
  simp only[Ac,I,j,aH,aB,Aa,h2,ak];exact .ret ⟨rfl,f⟩
theorem Du{l:List EV}(f:h.get i=some (.cells l t))(hs:TT.size t=some n)(j:TT.agg t=some true)(y:l.length=n):Gi TT [.c (.ptr i 0) t,.v v] h=some (.tuple [.agg l,v],h):=by
 have A:Jn h i 0 n=some l:=by
  unfold Jn;rw[f];simp only;rw[<-m_];exact Ai y
 unfold Gi;simp only[j5,hs,A,j]
theorem kr:TT.size 32=some 64/\TT.agg 32=some true:=⟨by kernel_rfl,by kernel_rfl⟩
def Vh:List EV:=List.replicate 64 (.int .u8 0)
theorem K4:Vh.length=64:=by simp[Vh]
theorem Bk6:∀(l:List (List EV)) (j:Nat),(∀x∈l,x.length=64)->j<l.length->∃x,l[j]? = some x/\x.length=64/\Ke l.flatten (j*64) 64=some x:=by
 intro l;induction l with
 | nil=>intro j _ hj;cases hj
 | cons y l B=>
  intro j hw hj;have J:=hw y (aW ..);cases j with
  | zero=>
   refine⟨y,rfl,J,?_⟩;rw[cJ,E4 (by simp[J]),fZ,dK,dP a_,bK a_]
  | succ j=>
   obtain⟨x,e1,e2,e3⟩:=B j (fun x f=>hw x (aV _ f)) (by simpa using hj);refine⟨x,by simpa using e1,e2,?_⟩;have L:j*64+64<=l.flatten.length:=by
    rcases dJ l.flatten.length (j*64+64)with C|E
    ·rw[m_]at e3
     exfalso;have:(l.flatten.drop (j*64)).length<64:=by rw[aU];omega
     revert e3;have hlen:l.flatten.length=l.length*64:=by
      clear B hj e1 C this;have A:∀x∈l,x.length=64:=fun x f=>hw x (aV _ f)
      clear hw;induction l with
      | nil=>rfl
      | cons a l B=>rw[cJ,aE,B fun x f=>A x (aV _ f),A a (aW ..),bP];omega
     have:j+1<=l.length:=by simp at hj;omega
     omega
    ·exact E
   rw[E4 L]at e3;rw[cJ,E4 (by rw[aE];omega),show(j+1)*64=y.length+j*64 from a_,List.drop_append,<-e3,dG a_,cS];simp
def jM(Z:Zn)(off:Int):List EV × Int:=if Z.st=4 then(Vh,32)else if 0<=off/\off<Z.l.length then((Z.l[off.toNat]?).getD Vh,0)else(Vh,31)
theorem Bhw {Z:Zn}(wf:∀x∈Z.l,x.length=64)(off:Int):(jM Z off).1.length=64:=by
 unfold jM;split
 ·exact K4
 ·split
  next hc=>
   have:off.toNat<Z.l.length:=a_
   rw[aF this];exact wf _ (aZ _)
  ·exact K4
theorem A6q{z q:Nat}{size:Int}{Z:Zn}(E:Fk h z q size Z)(hb:HB h)(off:Int):
 Ok (Hy K (.ptr z 0) (I off) h) fun v h'=>v=.tuple [.agg (jM Z off).1,I (jM Z off).2]/\Ext h h':=by
 simp only[Hy,Aa];have y:Ext h ((h.new (.cells (List.replicate 64 (.int .u8 0)) 32)).new (.cells (List.replicate 64 (.int .u8 0)) 32)):=(Aw.new _ _).Da _;have g4:((h.new (.cells (List.replicate 64 (.int .u8 0)) 32)).new (.cells (List.replicate 64 (.int .u8 0)) 32)).get h.next=some (.cells Vh 32):=by
  rw[Az _ (aO _)];exact Ad _ _
 have f:((h.new (.cells (List.replicate 64 (.int .u8 0)) 32)).new (.cells (List.replicate 64 (.int .u8 0)) 32)).get (h.new (.cells (List.replicate 64 (.int .u8 0)) 32)).next=some (.cells Vh 32):=Ad _ _
 generalize L:(h.new (.cells (List.replicate 64 (.int .u8 0)) 32)).next=U at f⊢
 generalize (h.new (.cells (List.replicate 64 (.int .u8 0)) 32)).new (.cells (List.replicate 64 (.int .u8 0)) 32)=h1 at y g4 f⊢;have A:=y.hb hb;have z1:Fk h1 z q size Z:=E.ext fun i o g=>y.at hb g
 obtain⟨s,g,r⟩:=z1.Am;have O:=A _ _ g4;have fin:∀(l:List EV) (e:Int),l.length=64->(l,e)=jM Z off->Ok (Vz 64 (.ptr h.next 0) (.agg l) h1 fun h=>Gi TT [.c (.ptr h.next 0) 32,.v (I e)] h) (fun v h'=>True)->True:=fun _ _ _ _ _=>trivial
 clear fin;have fin:∀(l:List EV) (e:Int) (kk:Ab->R),(∀h',kk h'=Gi TT [.c (.ptr h.next 0) 32,.v (I e)] h')->l.length=64->(l,e)=jM Z off->Ok (Vz 64 (.ptr h.next 0) (.agg l) h1 kk) fun v h'=>v=.tuple [.agg (jM Z off).1,I (jM Z off).2]/\Ext h h':=by
  intro l e kk B C he;refine Ok.st l g4 rfl (by rw[show EV.cells (.agg l)=l from rfl,Be,C]) (Bl (by rw[K4];exact C.symm)) ?_;rw[B,Du (Af _ _ _) kr.1 kr.2 C,<-he];exact .ret ⟨rfl,y.Ao (.inr (aD _)) O _⟩
 simp only[Cy g rfl,Aa,I,Ac,Cv f rfl,Ai K4];by_cases h4:Z.st=4
 ·rw[show decide ((Z.st:Int)=4)=true by simp[h4]]
  simp only[Aa];exact fin Vh 32 _ (fun _=>rfl) K4 (by unfold jM;rw[aN h4])
 ·rw[show decide ((Z.st:Int)=4)=false by simp;omega]
  simp only[Aa];by_cases h0:off<0
  ·simp only[h0,aB,Aa,Jl,Cv f rfl,Ai K4]
   exact fin Vh 31 _ (fun _=>rfl) K4 (by unfold jM;rw[aK h4,aK a_])
  ·simp only[h0,aA,Aa,r.Fz,Ac,Jl]
   by_cases J:(Z.l.length:Int)<=off
   ·simp only[J,aB,Aa,Cv f rfl,Ai K4]
    exact fin Vh 31 _ (fun _=>rfl) K4 (by unfold jM;rw[aK h4,aK a_])
   ·simp only[J,aA,Aa,Pm,Cy g rfl]
    have hj:off.toNat<Z.l.length:=a_
    obtain⟨j,rfl⟩:∃j:Nat,off=j:=⟨off.toNat,a_⟩;rw[show(j:Int).toNat=j from rfl]at hj;obtain⟨x,f1,f2,f3⟩:=Bk6 Z.l j E.wf hj;rw[r.ix hj];simp only[Cv (r.block a_) rfl,f3,Aa];refine fin x 0 _ (fun _=>rfl) f2 ?_;unfold jM;rw[aK h4,aN a_,show(j:Int).toNat=j from rfl,f1];rfl
theorem Fk.put{z q:Nat}{size:Int}{Z:Zn}(f:Fk h z q size Z){s:EV}(g:h.get z=some (.cells [s,I size,I Z.safe,I Z.st,.bool Z.fin] 176))(safe st:Nat)(fin:Bool):
 Fk (h.put z (.cells [s,I size,I safe,I st,.bool fin] 176)) z q size ⟨Z.l,safe,st,fin⟩:=by
 obtain⟨s',j,r⟩:=f.Am;rw[g]at j;have:s=s':=by
  have:=ek j;injection this with a _;exact(List.cons.inj a).1
 subst this;refine⟨⟨s,Af _ _ _,r.frame fun y=>Ae _ ?_⟩,f.wf⟩;exact Av g (r.block y) (by simp)
def Zn.flush(Z:Zn):Zn:={ Z with safe:=Z.l.length }
theorem A2r{z q:Nat}{size:Int}{Z:Zn}(f:Fk h z q size Z)(hb:HB h):
 Ok (G3 K (.ptr z 0) h) fun v h'=>Fk h' z q size Z.flush/\Aw (fun i=>i=z) h h'/\HB h':=by
 obtain⟨s,g,r⟩:=f.Am;have j:=hb _ _ g;simp only[G3,Aa,Cy g rfl,r.Fz];refine Ok.Z7 g rfl rfl (by show 2<5;decide) ?_;refine .ret ⟨?_,(Aw.refl (S:=fun i=>i=z) h).Ao (.inl rfl) j _,hb.put j _⟩;exact f.put g Z.l.length Z.st Z.fin
def Zn.finish(Z:Zn):Zn:={ Z with st:=2,fin:=true }
theorem A0b{z q:Nat}{size:Int}{Z:Zn}(f:Fk h z q size Z)(hb:HB h):
 Ok (Gs K (.ptr z 0) h) fun v h'=>v=I (Ki Z.st)/\Fk h' z q size (if Ki Z.st=0 then Z.finish else Z)/\Aw (fun i=>i=z) h h'/\HB h':=by
 obtain⟨s,g,r⟩:=f.Am;have j:=hb _ _ g;simp only[Gs,X4 f,Aa,I,Ac];by_cases y:Ki Z.st=0
 ·simp only[y,aC,aA,Aa,bM,N6]
  refine Ok.Z7 g rfl rfl (by show 3<5;decide) ?_;refine Ok.Z7 (Af _ _ _) rfl rfl (by show 4<5;decide) ?_;refine .ret ⟨rfl,?_,((Aw.refl (S:=fun i=>i=z) h).Ao (.inl rfl) j _).Ao (.inl rfl) j _,(hb.put j _).put j _⟩;exact(f.put g Z.safe 2 Z.fin).put (Af _ _ _) Z.safe 2 true
 ·simp only[y,aH,aB,Aa,ak]
  exact .ret ⟨rfl,f,Aw.refl _,hb⟩
def Zn.fail(Z:Zn)(st:Nat):Zn:=if st=4\/st=3/\¬Z.st=4 then { Z with st:=st }else Z
theorem A43{z q:Nat}{size:Int}{Z:Zn}(f:Fk h z q size Z)(hb:HB h)(st:Nat):
 Ok (Hw K (.ptr z 0) (I st) h) fun v h'=>Fk h' z q size (Z.fail st)/\Aw (fun i=>i=z) h h'/\HB h':=by
 obtain⟨s,g,r⟩:=f.Am;have j:=hb _ _ g;have yes:(st=4\/st=3/\¬Z.st=4)->Ok (Vz 1 (.ptr z 3) (I st) h fun h=>some (.tuple [],h)) fun v h'=>Fk h' z q size (Z.fail st)/\Aw (fun i=>i=z) h h'/\HB h':=by
  intro hc;refine Ok.Z7 g rfl rfl (by show 3<5;decide) ?_;refine .ret ⟨?_,(Aw.refl (S:=fun i=>i=z) h).Ao (.inl rfl) j _,hb.put j _⟩;unfold Zn.fail;rw[aN hc];exact f.put g Z.safe st Z.fin
 have no:¬(st=4\/st=3/\¬Z.st=4)->Ok (some (.tuple [],h)) fun v h'=>Fk h' z q size (Z.fail st)/\Aw (fun i=>i=z) h h'/\HB h':=by
  intro hc;refine .ret ⟨?_,Aw.refl _,hb⟩;unfold Zn.fail;rw[aK hc];exact f
 simp only[Hw,I,Ac,Aa];by_cases a:st=4
 ·rw[show decide ((st:Int)=4)=true by simp[a]]
  simp only[Aa,Ac,Gd,Em,Ep];exact yes (.inl a)
 ·rw[show decide ((st:Int)=4)=false by simp;omega]
  simp only[Aa,Ac];by_cases b:st=3
  ·rw[show decide ((st:Int)=3)=true by simp[b]]
   simp only[Aa,Ac,Gd,Cy g rfl,I];by_cases c:Z.st=4
   ·rw[show decide (¬(Z.st:Int)=4)=false by simp[c]]
    simp only[Aa,Ac,Em,Ep];exact no a_
   ·rw[show decide (¬(Z.st:Int)=4)=true by simp;omega]
    simp only[Aa,Ac,Em,Ep];exact yes (.inr ⟨b,c⟩)
  ·rw[show decide ((st:Int)=3)=false by simp;omega]
   simp only[Aa,Ac,Gd,Em,Ep];exact no a_
theorem X5{b sz:Nat}{x:EV}{new:List EV}(j:lenOf x=some n)(f:n<=65536)(hc:Pw h sz n x=some new)(hs:new.length=n*sz)(q:Nat):
 Ok (Ef e sz (.slice b 0 0 0 false) x h) fun v h'=>∃q',Bu h' v q' e sz n new/\Ext h h'/\(0<n->h.next<=q'):=by
 rcases eC n with rfl|A
 ·have:new = []:=bh.1 a_
  subst this;refine⟨.slice b 0 0 0 false,h,?_,q,.empty _ _ _ _ _,Aw.refl _,fun y=>a_⟩;unfold Ef;simp only[j,G6];rfl
 ·obtain⟨h',e1,r,C,c⟩:=pD (s:=.slice b 0 0 0 false) (q:=q) (e:=e) (.empty h b q e sz) j A f (cO _) hc hs
  refine⟨_,h',e1,h.next,?_,c.mono fun i B=>absurd B.1 (bU _),fun _=>aD _⟩;rw[cS]at r;simpa only[bI]using r
section
def Bg(F:Nat->Prop)(h h':Ab):Nat->Prop:=fun i=>F i\/(h.next<=i/\i<h'.next)
theorem Aw.grow(a:Aw F h h1)(b:Aw (Bg F h h1) h1 h2):Aw F h h2:=
 a.then b fun i f j=>by
  rcases f with f|f
  ·exact f
  ·omega
theorem Bg.trans(a:h.next<=h1.next)(b:h1.next<=h2.next)(g:Bg (Bg F h h1) h1 h2 i):Bg F h h2 i:=by
 rcases g with(g|g)|g
 ·exact .inl g
 ·exact .inr ⟨g.1,a_⟩
 ·exact .inr ⟨a_,g.2⟩
theorem Bg.le(b:h1.next<=h2.next)(g:Bg F h h1 i):Bg F h h2 i:=by
 rcases g with g|g
 ·exact .inl g
 ·exact .inr ⟨g.1,a_⟩
structure Dv where
 n:Nat
 size:Nat
 op:Int
 cnt:Int
 down:Bool
 zs:Nat->Zn
def Bh(l:List Nat):List EV:=l.map fun(b:Nat)=>EV.int .u8 (Int.ofNat b)
def U8(x:List EV):Prop:=∃l:List Nat,(∀b∈l,b<256)/\x=Bh l
theorem U8.zs:U8 Vh:=⟨List.replicate 64 0,fun b hb=>by rw[cC hb];decide,by unfold Bh Vh;rw[gE];rfl⟩
structure Zn.Wf(Z:Zn)(size:Nat):Prop where
 u8:∀x∈Z.l,U8 x
 st:Z.st<=4
 safe:Z.safe<=Z.l.length
 len:Z.l.length<=size
 room:Z.st<2->Z.l.length<size
structure Dv.Wf(D:Dv):Prop where
 size:D.size<=64
 n:D.n<=512
 zs:∀i,i<D.n->(D.zs i).Wf D.size
def A27(V zl n:Nat)(z q:Nat->Nat)(zs:Nat->Zn):Nat->Prop:=fun i=>i=V\/i=zl\/∃d,d<n/\(i=z d\/((zs d).l≠[]/\i=q d))
structure Hv(h:Ab)(V:Nat)(D:Dv)(F:Nat->Prop):Prop where
 wf:D.Wf
 lt:∀i,F i->i<h.next
 Ly:∃zl z q,Mb h V zl D.n z q D.size D.op D.cnt D.down D.zs/\∀i,A27 V zl D.n z q D.zs i->F i
theorem Hv.mono{D:Dv}(d:Hv h V D F)(s:∀i,F i->G i)(l:∀i,G i->i<h.next):Hv h V D G:=by
 obtain⟨zl,z,q,a,b⟩:=d.Ly;exact⟨d.wf,l,zl,z,q,a,fun i f=>s i (b i f)⟩
theorem Bg.lt(l:∀i,F i->i<h.next)(n:h.next<=h'.next):∀i,Bg F h h' i->i<h'.next:=fun i f=>by
 rcases f with f|f
 ·have:=l i f;omega
 ·exact f.2
theorem Hv.grow{D:Dv}(d:Hv h' V D F)(l:∀i,F i->i<h.next)(n:h.next<=h'.next):Hv h' V D (Bg F h h'):=
 d.mono (fun _=>.inl) (Bg.lt l n)
theorem oZ {l:List (List EV)}:l≠[]↔0<l.length:=by rw[List.length_pos_iff]
theorem Mb.frame{z q:Nat->Nat}{size:Int}{Zs:Nat->Zn}(d:Mb h V zl n z q size op cnt down Zs)(e:∀i,A27 V zl n z q Zs i->h'.get i=h.get i):Mb h' V zl n z q size op cnt down Zs:=by
 refine⟨d.pos,by rw[e _ (.inl rfl)];exact d.dev,by rw[e _ (.inr (.inl rfl))];exact d.row,fun i f=>?_,d.A6b,d.Baf⟩;obtain⟨s,a,b⟩:=(d.Am i f).Am;exact⟨⟨s,by rw[e _ (.inr (.inr ⟨i,f,.inl rfl⟩))];exact a,b.frame fun j=>e _ (.inr (.inr ⟨i,f,.inr ⟨oZ.2 j,rfl⟩⟩))⟩,(d.Am i f).wf⟩
theorem Hv.frame{D:Dv}(d:Hv h V D F)(n:h.next<=h'.next)(e:∀i,F i->h'.get i=h.get i):Hv h' V D F:=by
 obtain⟨zl,z,q,a,b⟩:=d.Ly;exact⟨d.wf,fun i f=>aL (d.lt i f) n,zl,z,q,a.frame fun i f=>e i (b i f),b⟩
theorem Hv.chg{D:Dv}{S:Nat->Prop}(d:Hv h V D F)(c:Aw S h h')(n:∀i,F i->¬S i):Hv h' V D F:=
 d.frame c.next fun i f=>c.get i (d.lt i f) (n i f)
theorem Hv.ext{D:Dv}(d:Hv h V D F)(c:Ext h h'):Hv h' V D F:=d.chg c fun _ _=>id
theorem Mb.zg{z q:Nat->Nat}{size:Int}{Zs:Nat->Zn}(d:Mb h V zl n z q size op cnt down Zs)(j:Int)(f:Bool):
 Mb (h.put V (.cells [.slice zl 0 n n true,I size,I op,I j,.bool f] 131)) V zl n z q size op j f Zs:=by
 refine⟨d.pos,Af _ _ _,?_,fun i y=>?_,d.A6b,d.Baf⟩
 ·rw[Ae _ (Av d.dev d.row (by simp))];exact d.row
 ·obtain⟨s,a,b⟩:=(d.Am i y).Am
  refine⟨⟨s,?_,b.frame fun A=>Ae _ (Av d.dev (b.block A) (by simp))⟩,(d.Am i y).wf⟩;rw[Ae _ (Av d.dev a (by simp))];exact a
def Wm(Zs:Nat->Zn)(d:Nat)(Z:Zn):Nat->Zn:=fun e=>if e=d then Z else Zs e
def lI(q:Nat->Nat)(d x:Nat):Nat->Nat:=fun e=>if e=d then x else q e
theorem Mb.TV{z q:Nat->Nat}{size:Int}{Zs:Nat->Zn}(d:Mb h V zl n z q size op cnt down Zs)(hb:HB h)(U:i<n){Z:Zn}
 (Y:Fk h' (z i) q' size Z) (c:Aw (fun j=>j=z i\/((Zs i).l≠[]/\j=q i)) h h') (hq:Z.l≠[]->h.next<=q'\/(q'=q i/\(Zs i).l≠[])) :
 Mb h' V zl n z (lI q i q') size op cnt down (Wm Zs i Z):=by
 obtain⟨si,W,bi⟩:=(d.Am i U).Am;have nq:∀x o,h.get x=some o->(∀l,o≠.vec l 32 64)->¬((Zs i).l≠[]/\x=q i):=by
  rintro x o E B ⟨C,rfl⟩;rw[bi.block (oZ.1 C)]at E;cases E;exact B _ rfl
 have Hb:∀x o,h.get x=some o->x≠z i->(∀l,o≠.vec l 32 64)->h'.get x=some o:=fun x o E hn B=>by
  refine c.at hb E ?_;rintro(y|y)
  ·exact hn y
  ·exact nq x o E B y
 refine⟨d.pos,Hb _ _ d.dev (Av d.dev W (by simp)) (by intros;simp),Hb _ _ d.row (Av d.row W (by simp)) (by intros;simp),fun j hj=>?_,d.A6b,?_⟩
 ·by_cases f:j=i
  ·subst f;simp only[lI,Wm,bM];exact Y
  ·simp only[lI,Wm,f,ak]
   obtain⟨s,a,b⟩:=(d.Am j hj).Am;refine⟨⟨s,Hb _ _ a (fun e=>f (d.A6b j i hj U e)) (by intros;simp),b.frame fun C=>?_⟩,(d.Am j hj).wf⟩;have X:=b.block C;refine c.get _ (hb _ _ X) ?_;rintro(y|⟨J,L⟩)
   ·exact Av X W (by simp) y
   ·exact f (d.Baf j i hj U (oZ.2 C) J L)
 ·intro j k hj O
  have lq:∀j,j<n->(Zs j).l≠[]->q j<h.next:=fun j hj C=>by
   obtain⟨s,a,b⟩:=(d.Am j hj).Am;exact hb _ _ (b.block (oZ.1 C))
  by_cases f:j=i<;>by_cases A:k=i
  ·intros;omega
  ·subst f;simp only[lI,Wm,A,bM,ak]
   intro a b e;rcases hq a with y|⟨J,L⟩
   ·have:=lq k O b;omega
   ·exact absurd (d.Baf j k hj O L b (by rw[<-J];exact e)).symm A
  ·subst A;simp only[lI,Wm,f,bM,ak]
   intro a b e;rcases hq b with y|⟨J,L⟩
   ·have:=lq j hj a;omega
   ·exact absurd (d.Baf j k hj O a L (by rw[<-J];exact e)) f
  ·simp only[lI,Wm,f,A,ak]
   exact d.Baf j k hj O
def Dv.has(D:Dv)(i:Int):Bool:=decide (0<=i/\i<D.n)
def Dv.Ez(D:Dv)(i:Int):Int:=if D.down=true then 34 else if D.has i=false then 13 else 0
def Dv.tick(D:Dv):Dv:={ D with cnt:=Cs .i64 (D.cnt+1) }
def Dv.begin(D:Dv)(i:Int):Dv:=if D.Ez i=0 then D.tick else D
def Dv.set(D:Dv)(i:Nat)(Z:Zn):Dv:={ D with zs:=Wm D.zs i Z }
section
variable{z q:Nat->Nat}{size:Int}{Zs:Nat->Zn}(d:Mb h V zl n z q size op cnt down Zs)
include d
theorem Mb.list(k:EV->R):Et (.ptr V 0) h k=k (.slice zl 0 n n true):=by rw[Cy d.dev rfl];rfl
theorem Mb.qj(f:i<n)(k:EV->R):Ve 1 (.slice zl 0 n n true) (I i) (fun v=>Et v h k)=k (.ptr (z i) 0):=by
 unfold I;rw[Md f,Cy d.row rfl,bI,cD,aY,cL f];rfl
theorem Bal(i:Int):G1 K (.ptr V 0) (I i) h=some (.bool (decide (0<=i/\i<n)),h):=by
 simp only[G1,I,Ac,Aa];by_cases h0:0<=i
 ·simp only[h0,aB,Aa,Ac,d.list,Wd,gQ]
 ·simp only[h0,aA,Aa,Wd,gP]
end
section
variable{D:Dv}(d:Hv h V D F)(hb:HB h)
include d
theorem sD(i:Int):G1 K (.ptr V 0) (I i) h=some (.bool (D.has i),h):=by
 obtain⟨w,wl,zl,z,q,a,b⟩:=d;exact Bal a i
theorem W_(i:Int):Kk K (.ptr V 0) (I i) h=some (I (if D.has i=true then(D.zs i.toNat).st else 4),h):=by
 simp only[Kk,sD d,Aa];obtain⟨w,wl,zl,z,q,a,b⟩:=d;cases f:D.has i with
 | false=>simp only[Aa,I,aT,ak]
 | true=>
  have:=cX f;obtain⟨j,rfl⟩:∃j:Nat,i=j:=⟨i.toNat,a_⟩;have hj:j<D.n:=a_
  simp only[Aa,Li,a.list,a.qj hj,zf (a.Am j hj),bM];rfl
include hb
theorem sS(i:Int):Ok (Ig K (.ptr V 0) (I i) h) fun v h'=>v=I (D.Ez i)/\Hv h' V (D.begin i) F/\Aw F h h'/\HB h'/\h'.next=h.next:=by
 have j:=sD (K:=K) d i;obtain⟨w,wl,zl,z,q,a,b⟩:=d;unfold Dv.begin Dv.Ez;simp only[Ig,Aa,Cy a.dev rfl];cases hd:D.down with
 | true=>
  simp only[Aa,bM,show((34:Int)=0)=False by simp,ak];exact .ret ⟨rfl,⟨w,wl,zl,z,q,a,b⟩,Aw.refl _,hb,rfl⟩
 | false=>
  simp only[Aa,j,aT,ak];cases y:D.has i with
  | false=>
   simp only[Aa,bM,show((13:Int)=0)=False by simp,ak];exact .ret ⟨rfl,⟨w,wl,zl,z,q,a,b⟩,Aw.refl _,hb,rfl⟩
  | true=>
   simp only[Aa,gG,ak,bM,KF,Cy a.dev rfl,I,Ac];have f:=hb _ _ a.dev;refine Ok.Z7 a.dev rfl rfl (by show 3<5;decide) ?_;refine .ret ⟨rfl,⟨⟨w.size,w.n,w.zs⟩,wl,zl,z,q,a.zg (Cs .i64 (D.cnt+1)) D.down,b⟩,(Aw.refl h).Ao (.inl (b _ (.inl rfl))) f _,hb.put f _,rfl⟩
end
end
variable {dv:Dv}
theorem wW {b:Nat}{s:DX}{call:Ab->R}(hb:Ab3 b s=true)(f:loose b s.nw = [])(hc:call h.lift=some (v,h.lift)):Kw i b s h call k=k v h (s.big i):=by
 have j:Ic b s h=h.lift:=by unfold Ic;rw[f];rfl
 show Bb (Ab3 b s) (Ev.Al (call (Ic b s h)) fun v h'=>Mw i b s h h' fun s h=>k v h s) none=_;rw[hb,Aj,j,hc];show Mw i b s h h.lift (fun s h=>k v h s)=_;unfold Mw;rw[aM (show h.next<=h.lift.mw from aD _),Aj,f];rfl
theorem lS {b:Nat}{s:DX}{call:Ab->R}(hc:call h.lift=some (v,h.lift))(hb:Ab3 b s=true:=by kernel_rfl)(f:loose b s.nw = []:=by kernel_rfl):Kw i b s h call k=k v h (s.big i):=wW hb f hc
theorem Mb.lift{z q:Nat->Nat}{size:Int}{Zs:Nat->Zn}(d:Mb h V zl n z q size op cnt down Zs):Mb h.lift V zl n z q size op cnt down Zs:=d.frame fun i _=>Bv h i
theorem Hv.lift{D:Dv}(d:Hv h V D F):Hv h.lift V D F:=d.frame (aD _) fun i _=>Bv h i
def jn(Zs:Nat->Zn)(n:Nat):Nat:=((List.range n).filter fun i=>(Zs i).st=1).length
theorem Bch(Zs:Nat->Zn)(n:Nat):jn Zs (n+1)=jn Zs n+(if(Zs n).st=1 then 1 else 0):=by
 unfold jn;rw[cu,eV,aE];congr 1;by_cases hc:(Zs n).st=1<;>simp[hc]
theorem Bln(Zs:Nat->Zn)(n:Nat):jn Zs n<=n:=by
 unfold jn;have:=eW (fun i=>decide ((Zs i).st=1)) (List.range n);simpa using this
theorem A7v{z q:Nat->Nat}{size:Int}{Zs:Nat->Zn}(d:Mb h V zl n z q size op cnt down Zs)(hn:n<=512):∀(m i:Nat),n-i<m->i<=n ->
 Ji K m (I (jn Zs i)) (.slice zl 0 n n true) (I n) (I i) h=some (I (jn Zs n),h):=by
 intro m;induction m with
 | zero=>intro i hm;omega
 | succ m B=>
  intro i hm C;simp only[Ji,I,Ac,Aa];by_cases j:(i:Int)<n
  ·have y:i<n:=a_
   have A:=d.qj y;simp only[I]at A;have hle:=Bln Zs i;simp only[j,aB,Aa,Zj,A,zf (d.Am i y),I,Ac];have f:=B (i+1) a_ a_;rw[Bch]at f;by_cases h1:(Zs i).st=1
   ·rw[show decide (((Zs i).st:Int)=1)=true by simp[h1]]
    rw[aN h1]at f;simp only[Aa,Ac,Rm];rw[Ci,Ci];exact f
   ·rw[show decide (((Zs i).st:Int)=1)=false by simp;omega]
    rw[aK h1]at f;simp only[Aa,Ac,Rm];rw[Ci];exact f
  ·have:i=n:=a_
   subst this;simp only[j,aA,Aa,Zv]
theorem Bht{z q:Nat->Nat}{size:Int}{Zs:Nat->Zn}(d:Mb h V zl n z q size op cnt down Zs)(hn:n<=512)(hK:1000<K):
 Qm K (.ptr V 0) h=some (I (jn Zs n),h):=by
 simp only[Qm,Aa,d.list];exact A7v d hn K 0 a_ (cO _)
def Dv.append(D:Dv)(i:Int)(x:List EV):Dv × Int × Int:=
 if D.Ez i≠0 then(D,0,D.Ez i)else
 if(D.zs i.toNat).st=0/\D.op<=jn D.zs D.n then(D.tick,0,33)else
 if 2<=(D.zs i.toNat).st then(D.tick,0,if(D.zs i.toNat).st=2 then 17 else Ki (D.zs i.toNat).st)else
 (D.tick.set i.toNat ((D.zs i.toNat).app D.size x),(D.zs i.toNat).l.length,0)
theorem Zn.Wf.app {Z:Zn}{size:Nat}(w:Z.Wf size)(hs:Z.st<2)(j:U8 x):(Z.app size x).Wf size:=by
 have:=w.room hs;have:=w.safe;refine⟨fun y f=>?_,?_,?_,?_,?_⟩<;>try simp only[Zn.app,aE,List.length_singleton]
 ·rcases bO.1 f with f|f
  ·exact w.u8 y f
  ·rw[aP.1 f];exact j
 ·split<;>omega
 ·omega
 ·omega
 ·split<;>omega
theorem Dv.Wf.set {D:Dv}(w:D.Wf){Z:Zn}(z:Z.Wf D.size):(D.set i Z).Wf:=by
 refine⟨w.size,w.n,fun j hj=>?_⟩;show(Wm D.zs i Z j).Wf D.size;unfold Wm;split
 ·exact z
 ·exact w.zs j hj
theorem Hv.Am{D:Dv}(w:D.Wf){z q:Nat->Nat}(a:Mb h V zl D.n z q D.size D.op D.cnt D.down D.zs)(b:∀i,A27 V zl D.n z q D.zs i->F i)(wl:∀i,F i->i<h.next)(hb:HB h)(C:i<D.n){Z:Zn}
 (O:Z.Wf D.size) (J:Fk h' (z i) q' D.size Z) (c:Aw (fun j=>j=z i\/((D.zs i).l≠[]/\j=q i)) h h') (E:HB h') (hq:Z.l≠[]->h.next<=q'\/(q'=q i/\(D.zs i).l≠[])) :
 Hv h' V (D.set i Z) (Bg F h h')/\Aw F h h':=by
 have L:∀j,(j=z i\/((D.zs i).l≠[]/\j=q i))->F j:=by
  rintro j (y|⟨f,A⟩)
  ·exact b j (.inr (.inr ⟨i,C,.inl y⟩))
  ·exact b j (.inr (.inr ⟨i,C,.inr ⟨f,A⟩⟩))
 refine⟨⟨w.set O,Bg.lt wl c.next,zl,z,_,a.TV hb C J c hq,?_⟩,c.mono L⟩;rintro j (y|y|⟨d,hd,y⟩)
 ·exact .inl (b j (.inl y))
 ·exact .inl (b j (.inr (.inl y)))
 ·rcases y with y|⟨f,A⟩
  ·exact .inl (b j (.inr (.inr ⟨d,hd,.inl y⟩)))
  ·by_cases B:d=i
   ·subst B
    simp only[Dv.set,Wm,lI,bM]at f A;subst A;rcases hq f with y|⟨U,W⟩
    ·obtain⟨s,_,r⟩:=J.Am
     exact .inr ⟨y,E _ _ (r.block (oZ.1 f))⟩
    ·rw[U];exact .inl (L _ (.inr ⟨W,rfl⟩))
   ·simp only[Dv.set,Wm,lI,B,ak]at f A
    exact .inl (b j (.inr (.inr ⟨d,hd,.inr ⟨f,A⟩⟩)))
theorem A2s{D:Dv}(d:Hv h V D F)(hb:HB h)(hK:1000<K)(i:Int)(hx:x.length=64)(hu:U8 x):
 Ok (Qp K (.ptr V 0) (I i) (.agg x) h) fun v h'=>v=.tuple [I (D.append i x).2.1,I (D.append i x).2.2]/\Hv h' V (D.append i x).1 (Bg F h h')/\Aw F h h'/\HB h':=by
 simp only[Qp,Aa];have x1:Ext h (h.new (.cells x 32)):=Aw.new _ _;have L:(h.new (.cells x 32)).get h.next=some (.cells x 32):=Ad _ _
 have E:HB (h.new (.cells x 32)):=hb.new _;have d1:=d.ext x1;have n1:(h.new (.cells x 32)).next=h.next+1:=rfl
 generalize h.new (.cells x 32)=h1 at x1 L E d1 n1⊢;refine(sS (K:=K) d1 E i).Al ?_;rintro _ h2 ⟨rfl,d2,c2,A,n2⟩;have nx:¬F h.next:=fun y=>bU _ (d.lt _ y)
 have L:=c2.at E L nx;have B:Aw F h h2:=(Ext.to x1).trans c2;unfold Dv.append;unfold Dv.begin at d2;by_cases f:D.Ez i=0
 ·rw[aN f]at d2
  rw[aK (by rw[f];exact fun y=>y rfl),f];simp only[I,Ac,aC,aA,Aa,Zp];obtain⟨w,wl,zl,z,q,a,b⟩:=d2;have O:D.has i=true:=by
   unfold Dv.Ez at f;cases hh:D.has i with
   | true=>rfl
   | false=>rw[hh]at f;split at f<;>simp at f
  have:=cX O;obtain⟨j,rfl⟩:∃j:Nat,i=j:=⟨i.toNat,a_⟩;have hj:j<D.n:=a_
  rw[show(j:Int).toNat=j from rfl];have lV:=A _ _ a.dev;have U:=A _ _ a.row;have l5:=A _ _ L;have lz:=A _ _ (a.Am j hj).Am.choose_spec.1;have W:∀k:EV->R,Et (.ptr zl j) h2 k=k (.ptr (z j) 0):=fun k=>by
   have:=a.qj hj k;unfold I at this;rw[Md (show j<D.tick.n from hj),bI,cD]at this;exact this
  have X:∀k:EV->R,Ve 1 (.slice zl 0 D.tick.n D.tick.n true) (.int .i64 (j:Int)) k=k (.ptr zl j):=fun k=>by
   rw[Md (show j<D.tick.n from hj),bI,cD]
  simp only[Aa,Ar,Cj lV,a.list,X,Cj U,W];rw[lS (zf (a.lift.Am j hj))];have ah:=Bht (K:=K) a.lift w.n hK;have dd:∀h',Ext h2 h'->Hv h' V D.tick (Bg F h h')/\Aw F h h'/\HB h':=fun h' x'=>⟨(Hv.ext ⟨w,wl,zl,z,q,a,b⟩ x').grow d.lt (by have:=B.next;have:=x'.next;omega),B.trans (Ext.to x'),x'.hb A⟩
  have app:¬((D.zs j).st=0/\D.op<=jn D.zs D.n)->Ok (Ro K (.ptr V 0) (I j) (.ptr h.next 0) h2) fun v h'=>v=.tuple [I (if(D.zs j).st=0/\D.op<=jn D.zs D.n then(D.tick,0,33)else if 2<=(D.zs j).st then(D.tick,0,if(D.zs j).st=2 then 17 else Ki (D.zs j).st)else(D.tick.set j ((D.zs j).app D.size x),((D.zs j).l.length:Int),(0:Int))).2.1,I (if(D.zs j).st=0/\D.op<=jn D.zs D.n then(D.tick,0,33)else if 2<=(D.zs j).st then(D.tick,0,if(D.zs j).st=2 then 17 else Ki (D.zs j).st)else(D.tick.set j ((D.zs j).app D.size x),((D.zs j).l.length:Int),(0:Int))).2.2]/\Hv h' V (if(D.zs j).st=0/\D.op<=jn D.zs D.n then(D.tick,0,33)else if 2<=(D.zs j).st then(D.tick,0,if(D.zs j).st=2 then 17 else Ki (D.zs j).st)else(D.tick.set j ((D.zs j).app D.size x),((D.zs j).l.length:Int),(0:Int))).1 (Bg F h h')/\Aw F h h'/\HB h':=by
   intro ai;rw[aK ai];simp only[Ro,I,Aa,Ar,Cj lV,a.list,X,Cj U,W,Cj l5,Cv L rfl,Ai hx];have wz:=w.zs j hj;have al:=w.size;have ao:=wz.len;by_cases J:2<=(D.zs j).st
   ·rw[aN J]
    refine Ok.bE (A08 (K:=K) (a.lift.Am j hj) (Cz A) J wz.st x) (fun _ _ p=>p.2) ?_;rintro _ h3 h4 ⟨rfl,_⟩ sm x4;simp only[Aa];exact .ret ⟨rfl,dd h4 x4⟩
   ·rw[aK J]
    have C:(D.zs j).st<2:=a_
    refine Ok.qI (S:=fun i=>i=z j\/(0<(D.zs j).l.length/\i=q j)) (by kernel_rfl) (by kernel_rfl) (fun _=>by kernel_rfl) (Azz (K:=K) (size:=D.size) (a.lift.Am j hj) (Cz A) C (bN ao al) hx) (fun _ _ p=>p.2.2.1) ?_;rintro _ h3 h4 s' ⟨rfl,⟨q',zz,Y⟩,_,aq⟩ sm c4 _;simp only[Aa];have aa:=sm.hb aq;have au:Fk h4 (z j) q' D.size ((D.zs j).app D.size x):=zz.ext fun i o g=>by rw[sm.get];exact g
    obtain⟨d4,ab⟩:=Hv.Am w a b wl A hj (wz.app C hu) au (c4.mono fun i hi=>by
     rcases hi with y|⟨y1,y2⟩
     ·exact .inl y
     ·exact .inr ⟨oZ.2 y1,y2⟩) aa (fun _=>.inl (by rw[rh]at Y;exact Y))
    refine .ret ⟨rfl,?_,B.trans ab,aa⟩;refine d4.mono (fun i hi=>?_) (Bg.lt d.lt (B.trans ab).next);rcases hi with y|y
    ·exact .inl y
    ·exact .inr ⟨bN B.next y.1,y.2⟩
  simp only[I,Ac];by_cases h0:(D.zs j).st=0
  ·rw[show decide (((D.tick.zs j).st:Int)=0)=true from aQ (by show((D.zs j).st:Int)=0;omega)]
   simp only[Aa,Ac];rw[lS ah];rw[I6 lV,Cy a.dev rfl];simp only[Aa,I,Ac,Nc];by_cases ho:D.op<=jn D.zs D.n
   ·rw[show decide (D.tick.op<=((jn D.tick.zs D.tick.n:Nat):Int))=true from aQ ho]
    simp only[Aa];rw[aN ⟨h0,ho⟩];exact .ret ⟨rfl,dd h2 (Aw.refl _)⟩
   ·rw[show decide (D.tick.op<=((jn D.tick.zs D.tick.n:Nat):Int))=false from aS ho]
    simp only[Aa];exact app fun y=>ho y.2
  ·rw[show decide (((D.tick.zs j).st:Int)=0)=false from aS (by show ¬((D.zs j).st:Int)=0;omega)]
   simp only[Aa,Ac,Nc];exact app fun y=>h0 y.1
 ·rw[aK f]at d2
  rw[aN f];simp only[I,Ac,f,aH,aB,Aa];exact .ret ⟨rfl,d2.grow d.lt B.next,B,A⟩
def Dv.read(D:Dv)(i off:Int):List EV × Int:=if D.Ez i≠0 then(Vh,D.Ez i)else jM (D.zs i.toNat) off
theorem Dv.sT {D:Dv}{i:Int}(f:D.Ez i=0):∃j:Nat,i=j/\j<D.n:=by
 have y:D.has i=true:=by
  unfold Dv.Ez at f;cases A:D.has i with
  | true=>rfl
  | false=>rw[A]at f;split at f<;>simp at f
 have:=cX y;exact⟨i.toNat,a_,a_⟩
theorem Mb.qw{z q:Nat->Nat}{size:Int}{Zs:Nat->Zn}(d:Mb h V zl n z q size op cnt down Zs){j:Nat}(hj:j<n):
 (∀k:EV->R,Ve 1 (.slice zl 0 n n true) (.int .i64 (j:Int)) k=k (.ptr zl j))/\(∀k:EV->R,Et (.ptr zl j) h k=k (.ptr (z j) 0)):=by
 have f:∀k:EV->R,Ve 1 (.slice zl 0 n n true) (.int .i64 (j:Int)) k=k (.ptr zl j):=fun k=>by
  rw[Md hj,bI,cD]
 refine⟨f,fun k=>?_⟩;have:=d.qj hj k;unfold I at this;rw[f]at this;exact this
theorem A8n{D:Dv}(d:Hv h V D F)(hb:HB h)(i off:Int):
 Ok (T3 K (.ptr V 0) (I i) (I off) h) fun v h'=>v=.tuple [.agg (D.read i off).1,I (D.read i off).2]/\(D.read i off).1.length=64/\Hv h' V (D.begin i) (Bg F h h')/\Aw F h h'/\HB h':=by
 simp only[T3,Aa];have U:Ext h (h.new (.cells (List.replicate 64 (.int .u8 0)) 32)):=Aw.new _ _;have L:(h.new (.cells (List.replicate 64 (.int .u8 0)) 32)).get h.next=some (.cells Vh 32):=Ad _ _
 have B:HB (h.new (.cells (List.replicate 64 (.int .u8 0)) 32)):=hb.new _;have d1:=d.ext U;generalize h.new (.cells (List.replicate 64 (.int .u8 0)) 32)=h1 at U L B d1⊢;refine(sS (K:=K) d1 B i).Al ?_;rintro _ h2 ⟨rfl,d2,c2,C,n2⟩;have nx:¬F h.next:=fun y=>bU _ (d.lt _ y)
 have L:=c2.at B L nx;have W:Aw F h h2:=(Ext.to U).trans c2;have fin:∀(l:List EV) (e:Int) (A:Ab),Ext h2 A->l.length=64->Ok (Vz 64 (.ptr h.next 0) (.agg l) A fun h=>Gi TT [.c (.ptr h.next 0) 32,.v (I e)] h) (fun _ _=>True)->True:=fun _ _ _ _ _ _=>trivial
 clear fin;have fin:∀(l:List EV) (e:Int) (A:Ab) (kk:Ab->R),(∀h',kk h'=Gi TT [.c (.ptr h.next 0) 32,.v (I e)] h')->Ext h2 A->l.length=64->(l,e)=D.read i off->Ok (Vz 64 (.ptr h.next 0) (.agg l) A kk) fun v h'=>v=.tuple [.agg (D.read i off).1,I (D.read i off).2]/\(D.read i off).1.length=64/\Hv h' V (D.begin i) (Bg F h h')/\Aw F h h'/\HB h':=by
  intro l e A kk X E O he;have J:=E.hb C;have g3:=E.at C L;refine Ok.st l g3 rfl (by rw[show EV.cells (.agg l)=l from rfl,Be,O]) (Bl (by rw[K4];exact O.symm)) ?_;rw[X,Du (Af _ _ _) kr.1 kr.2 O,<-he];have l3:=J _ _ g3;have c3:Aw F h (A.put h.next (.cells l 32)):=(W.trans (Ext.to E)).Ao (.inr (aD _)) l3 _;refine .ret ⟨rfl,O,?_,c3,J.put l3 _⟩;refine(((d2.ext E).frame (h':=A.put h.next (.cells l 32)) (aD _) fun j hj=>Ae _ fun y=>?_)).grow d.lt c3.next
  subst y;exact nx hj
 unfold Dv.read at fin⊢;by_cases f:D.Ez i=0
 ·rw[aK (by rw[f];exact fun y=>y rfl)]at fin⊢
  have Y:D.begin i=D.tick:=by unfold Dv.begin;rw[aN f]
  rw[Y]at d2 fin⊢;rw[f];obtain⟨j,rfl,hj⟩:=Dv.sT f;obtain⟨zl,z,q,a,b⟩:=d2.Ly;obtain⟨aa,ab⟩:=a.qw (j:=j) hj;simp only[I,Ac,aC,aA,Aa,LI,a.list,aa,ab];refine(A6q (K:=K) (a.Am j hj) C off).Al ?_;rintro _ A ⟨rfl,E⟩;simp only[Aa];exact fin _ _ A _ (fun _=>rfl) E (Bhw (a.Am j hj).wf off) rfl
 ·rw[aN f]at fin⊢
  simp only[I,Ac,f,aH,aB,Aa];rw[Ax (l:=Vh) rfl];exact fin Vh (D.Ez i) h2 _ (fun _=>rfl) (Aw.refl _) K4 rfl
def Dv.finish(D:Dv)(i:Int):Dv × Int:=
 if D.Ez i≠0 then(D,D.Ez i)else
 (if Ki (D.zs i.toNat).st=0 then D.tick.set i.toNat (D.zs i.toNat).finish else D.tick,Ki (D.zs i.toNat).st)
theorem Zn.Wf.finish {Z:Zn}{size:Nat}(w:Z.Wf size):Z.finish.Wf size:=⟨w.u8,by show 2<=4;omega,w.safe,w.len,fun y=>absurd y (by show ¬2<2;omega)⟩
theorem A2l{D:Dv}(d:Hv h V D F)(hb:HB h)(i:Int):
 Ok (Qg K (.ptr V 0) (I i) h) fun v h'=>v=I (D.finish i).2/\Hv h' V (D.finish i).1 (Bg F h h')/\Aw F h h'/\HB h':=by
 simp only[Qg,dr];refine(sS (K:=K) d hb i).Al ?_;rintro _ h2 ⟨rfl,d2,c2,B,Y⟩;unfold Dv.finish;by_cases f:D.Ez i=0
 ·rw[aK (by rw[f];exact fun y=>y rfl),f]
  have E:D.begin i=D.tick:=by unfold Dv.begin;rw[aN f]
  rw[E]at d2;obtain⟨j,rfl,hj⟩:=Dv.sT f;obtain⟨zl,z,q,a,b⟩:=d2.Ly;obtain⟨L,O⟩:=a.qw (j:=j) hj;simp only[I,Ac,aC,aA,Aa,Zh,a.list,L,O];refine(A0b (K:=K) (a.Am j hj) B).Al ?_;rintro _ U ⟨rfl,J,c3,C⟩
  try simp only[Aa]
  rw[show(j:Int).toNat=j from rfl];have J:Fk U (z j) (q j) D.size (if Ki (D.zs j).st=0 then(D.zs j).finish else D.zs j):=J;by_cases W:Ki (D.zs j).st=0
  ·simp only[W,bM]at J⊢
   obtain⟨d3,A⟩:=Hv.Am d2.wf a b d2.lt B hj (d2.wf.zs j hj).finish J (c3.mono fun _=>.inl) C (fun y=>.inr ⟨rfl,y⟩);refine .ret ⟨by rw[show Ki (D.tick.zs j).st=Ki (D.zs j).st from rfl,W],d3.mono (fun i X=>?_) (Bg.lt d.lt (c2.trans A).next),c2.trans A,C⟩;rcases X with y|y
   ·exact .inl y
   ·exact .inr ⟨bN c2.next y.1,y.2⟩
  ·simp only[W,ak]at J⊢
   obtain⟨d3,A⟩:=Hv.Am d2.wf a b d2.lt B hj (d2.wf.zs j hj) J (c3.mono fun _=>.inl) C (fun y=>.inr ⟨rfl,y⟩);have e:D.tick.set j (D.zs j)=D.tick:=by
    unfold Dv.set;have:Wm D.tick.zs j (D.zs j)=D.tick.zs:=by funext k;unfold Wm;split<;>simp_all [Dv.tick]
    rw[this]
   have d3:Hv U V (D.tick.set j (D.zs j)) (Bg F h2 U):=d3;rw[e]at d3;refine .ret ⟨rfl,d3.mono (fun i X=>?_) (Bg.lt d.lt (c2.trans A).next),c2.trans A,C⟩;rcases X with y|y
   ·exact .inl y
   ·exact .inr ⟨bN c2.next y.1,y.2⟩
 ·rw[aN f]
  have E:D.begin i=D:=by unfold Dv.begin;rw[aK f]
  rw[E]at d2;simp only[I,Ac,f,aH,aB,Aa];exact .ret ⟨rfl,d2.grow d.lt c2.next,c2,B⟩
def Dv.TW(D:Dv):Dv:={ D with down:=true }
theorem A5c{D:Dv}(d:Hv h V D F)(hb:HB h):
 Ok (Sk K (.ptr V 0) h) fun v h'=>Hv h' V D.TW F/\Aw F h h'/\HB h':=by
 obtain⟨w,wl,zl,z,q,a,b⟩:=d;simp only[Sk,Aa];have f:=hb _ _ a.dev;refine Ok.Z7 a.dev rfl rfl (by show 4<5;decide) ?_;exact .ret ⟨⟨⟨w.size,w.n,w.zs⟩,wl,zl,z,q,a.zg D.cnt true,b⟩,(Aw.refl h).Ao (.inl (b _ (.inl rfl))) f _,hb.put f _⟩
structure jo(h:Ab)(V zl:Nat)(z:Nat->Nat)(D:Dv)(F:Nat->Prop):Prop where
 wf:D.Wf
 lt:∀i,F i->i<h.next
 Ly:∃q,Mb h V zl D.n z q D.size D.op D.cnt D.down D.zs/\∀i,A27 V zl D.n z q D.zs i->F i
theorem Hv.z{D:Dv}(d:Hv h V D F):∃zl z,jo h V zl z D F:=by
 obtain⟨zl,z,q,a,b⟩:=d.Ly;exact⟨zl,z,d.wf,d.lt,q,a,b⟩
theorem jo.s{z:Nat->Nat}{D:Dv}(d:jo h V zl z D F):Hv h V D F:=by
 obtain⟨q,a,b⟩:=d.Ly;exact⟨d.wf,d.lt,zl,z,q,a,b⟩
theorem jo.mono{z:Nat->Nat}{D:Dv}(d:jo h V zl z D F)(s:∀i,F i->G i)(l:∀i,G i->i<h.next):jo h V zl z D G:=by
 obtain⟨q,a,b⟩:=d.Ly;exact⟨d.wf,l,q,a,fun i f=>s i (b i f)⟩
theorem jo.congr{z:Nat->Nat}{D:Dv}(d:jo h V zl z D F){zs':Nat->Zn}(e:∀i,i<D.n->zs' i=D.zs i):jo h V zl z { D with zs:=zs' } F:=by
 obtain⟨q,a,b⟩:=d.Ly;refine⟨⟨d.wf.size,d.wf.n,fun i f=>?_⟩,d.lt,q,⟨a.pos,a.dev,a.row,fun i f=>?_,a.A6b,fun i j f hj=>?_⟩,?_⟩
 ·show(zs' i).Wf _;rw[e i f];exact d.wf.zs i f
 ·show Fk _ _ _ _ (zs' i);rw[e i f];exact a.Am i f
 ·show(zs' i).l≠[]->(zs' j).l≠[]->_;rw[e i f,e j hj];exact a.Baf i j f hj
 ·rintro i (y|y|⟨k,A,y⟩)
  ·exact b i (.inl y)
  ·exact b i (.inr (.inl y))
  ·refine b i (.inr (.inr ⟨k,A,?_⟩))
   have y:i=z k\/(zs' k).l≠[]/\i=q k:=y;rw[e k A]at y;exact y
theorem jo.Am{z:Nat->Nat}{D:Dv}(d:jo h V zl z D F){q:Nat->Nat}(a:Mb h V zl D.n z q D.size D.op D.cnt D.down D.zs)(b:∀i,A27 V zl D.n z q D.zs i->F i)(hb:HB h)(C:i<D.n){Z:Zn}
 (O:Z.Wf D.size) (J:Fk h' (z i) q' D.size Z) (c:Aw (fun j=>j=z i\/((D.zs i).l≠[]/\j=q i)) h h') (E:HB h') (hq:Z.l≠[]->h.next<=q'\/(q'=q i/\(D.zs i).l≠[])) :
 jo h' V zl z (D.set i Z) (Bg F h h')/\Aw F h h':=by
 have L:∀j,(j=z i\/((D.zs i).l≠[]/\j=q i))->F j:=by
  rintro j (y|⟨f,A⟩)
  ·exact b j (.inr (.inr ⟨i,C,.inl y⟩))
  ·exact b j (.inr (.inr ⟨i,C,.inr ⟨f,A⟩⟩))
 refine⟨⟨d.wf.set O,Bg.lt d.lt c.next,_,a.TV hb C J c hq,?_⟩,c.mono L⟩;rintro j (y|y|⟨d,hd,y⟩)
 ·exact .inl (b j (.inl y))
 ·exact .inl (b j (.inr (.inl y)))
 ·rcases y with y|⟨f,A⟩
  ·exact .inl (b j (.inr (.inr ⟨d,hd,.inl y⟩)))
  ·by_cases B:d=i
   ·subst B
    simp only[Dv.set,Wm,lI,bM]at f A;subst A;rcases hq f with y|⟨U,W⟩
    ·obtain⟨s,_,r⟩:=J.Am
     exact .inr ⟨y,E _ _ (r.block (oZ.1 f))⟩
    ·rw[U];exact .inl (L _ (.inr ⟨W,rfl⟩))
   ·simp only[Dv.set,Wm,lI,B,ak]at f A
    exact .inl (b j (.inr (.inr ⟨d,hd,.inr ⟨f,A⟩⟩)))
def nK(f:Nat->Zn->Zn)(zs:Nat->Zn)(i:Nat):Nat->Zn:=fun j=>if j<i then f j (zs j)else zs j
theorem Bb6(f:Nat->Zn->Zn)(zs:Nat->Zn)(i:Nat):nK f zs (i+1)=Wm (nK f zs i) i (f i (zs i)):=by
 funext j;unfold nK Wm;by_cases h1:j=i
 ·subst h1;simp
 ·by_cases h2:j<i
  ·rw[aN a_,aK h1];exact(aN h2).symm
  ·rw[aK a_,aK h1];exact(aK h2).symm
theorem TX(f:Nat->Zn->Zn)(zs:Nat->Zn)(i:Nat):nK f zs i i=zs i:=by unfold nK;rw[aK a_]
def Dv.flush(D:Dv):Dv × Int:=if D.down=true then(D,34)else({ D.tick with zs:=fun i=>(D.zs i).flush },0)
theorem Zn.Wf.flush {Z:Zn}{size:Nat}(w:Z.Wf size):Z.flush.Wf size:=⟨w.u8,w.st,aD _,w.len,w.room⟩
theorem Bby{z:Nat->Nat}{D:Dv}(h0:Ab)(C:∀j,F j->j<h0.next):∀(m i:Nat) (h:Ab),D.n-i<m->i<=D.n->HB h->Aw F h0 h->jo h V zl z { D with zs:=nK (fun _ Z=>Z.flush) D.zs i } (Bg F h0 h) ->
 Ok (J6 K m (.slice zl 0 D.n D.n true) (I D.n) (I i) h) fun v h'=>v=I 0/\jo h' V zl z { D with zs:=nK (fun _ Z=>Z.flush) D.zs D.n } (Bg F h0 h')/\Aw F h0 h'/\HB h':=by
 intro m;induction m with
 | zero=>intro i h hm;omega
 | succ m W=>
  intro i h hm Y hb c d;have hn:=d.wf.n;have hn:D.n<=512:=hn;simp only[J6,I,Ac,Aa];by_cases A:(i:Int)<D.n
  ·have f:i<D.n:=a_
   obtain⟨q,a,b⟩:=d.Ly;obtain⟨E,J⟩:=a.qw (j:=i) f;simp only[A,aB,Aa,KL,E,J];have O:=a.Am i f;have U:=d.wf.zs i f;simp only[TX]at O U;refine(A2r (K:=K) O hb).Al ?_;rintro _ h1 ⟨X,c1,B⟩;simp only[KK,I,Ac];rw[Ci];obtain⟨d1,L⟩:=d.Am a b hb f U.flush X (c1.mono fun _=>.inl) B (fun y=>.inr ⟨rfl,by simp only[TX];exact y⟩);have c2:=c.grow L;refine W (i+1) h1 a_ a_ B c2 ?_;rw[Bb6];exact d1.mono (fun j hj=>Bg.trans c.next c1.next hj) (Bg.lt C c2.next)
  ·have:i=D.n:=a_
   subst this;simp only[A,aA,Aa,KJ];exact .ret ⟨rfl,d,c,hb⟩
theorem A6f{D:Dv}(d:Hv h V D F)(hb:HB h)(hK:1000<K):
 Ok (R9 K (.ptr V 0) h) fun v h'=>v=I D.flush.2/\Hv h' V D.flush.1 (Bg F h h')/\Aw F h h'/\HB h':=by
 obtain⟨w,wl,zl,z,q,a,b⟩:=d;have hn:=w.n;unfold Dv.flush;simp only[R9,Aa,Cy a.dev rfl];cases hd:D.down with
 | true=>
  simp only[Aa,bM];exact .ret ⟨rfl,Hv.grow ⟨w,wl,zl,z,q,a,b⟩ wl (aD _),Aw.refl _,hb⟩
 | false=>
  simp only[Aa,aT,ak,KM,Cy a.dev rfl,I,Ac];have y:=hb _ _ a.dev;refine Ok.Z7 a.dev rfl rfl (by show 3<5;decide) ?_;have c1:Aw F h (h.put V (.cells ([EV.slice zl 0 D.n D.n true,I D.size,I D.op,I D.cnt,.bool D.down].set 3 (.int .i64 (Cs .i64 (D.cnt+1)))) 131)):=(Aw.refl h).Ao (.inl (b _ (.inl rfl))) y _;have f:HB (h.put V (.cells ([EV.slice zl 0 D.n D.n true,I D.size,I D.op,I D.cnt,.bool D.down].set 3 (.int .i64 (Cs .i64 (D.cnt+1)))) 131)):=hb.put y _;have d1:jo (h.put V (.cells ([EV.slice zl 0 D.n D.n true,I D.size,I D.op,I D.cnt,.bool D.down].set 3 (.int .i64 (Cs .i64 (D.cnt+1)))) 131)) V zl z D.tick F:=⟨⟨w.size,w.n,w.zs⟩,wl,q,a.zg (Cs .i64 (D.cnt+1)) D.down,b⟩;generalize h.put V (.cells ([EV.slice zl 0 D.n D.n true,I D.size,I D.op,I D.cnt,.bool D.down].set 3 (.int .i64 (Cs .i64 (D.cnt+1)))) 131)=h1 at c1 f d1⊢;obtain⟨C,A,b1⟩:=d1.Ly;rw[Cy A.dev rfl];simp only[Aa];have:=Bby (K:=K) (D:=D.tick) (F:=F) h wl K 0 h1 (by show D.n-0<K;omega) (cO _) f c1 (jo.congr (d1.mono (fun _=>.inl) (Bg.lt wl c1.next)) (fun i _=>by unfold nK;rw[aK (cT _)]));refine this.mono ?_;rintro v h2 ⟨rfl,d2,c2,j⟩;refine⟨rfl,?_,c2,j⟩;exact(d2.congr (zs':=fun i=>(D.zs i).flush) fun i B=>(aN B).symm).s
def Dv.fail(D:Dv)(i:Int)(st:Nat):Dv:=if D.has i=true then D.set i.toNat ((D.zs i.toNat).fail st)else D
theorem Zn.Wf.fail {Z:Zn}{size:Nat}(w:Z.Wf size)(st:Nat):(Z.fail st).Wf size:=by
 unfold Zn.fail;split
 ·exact⟨w.u8,by show st<=4;omega,w.safe,w.len,fun y=>absurd y (by show ¬st<2;omega)⟩
 ·exact w
theorem A93{D:Dv}(d:Hv h V D F)(hb:HB h)(i:Int)(st:Nat):
 Ok (Px K (.ptr V 0) (I i) (I st) h) fun v h'=>Hv h' V (D.fail i st) (Bg F h h')/\Aw F h h'/\HB h':=by
 simp only[Px,sD d,Aa];unfold Dv.fail;cases E:D.has i with
 | false=>
  simp only[Aa,aT,ak];exact .ret ⟨d.grow d.lt (aD _),Aw.refl _,hb⟩
 | true=>
  have:=cX E;obtain⟨j,rfl⟩:∃j:Nat,i=j:=⟨i.toNat,a_⟩;have hj:j<D.n:=a_
  obtain⟨zl,z,q,a,b⟩:=d.Ly;obtain⟨A,B⟩:=a.qw (j:=j) hj;simp only[Aa,bM,KZ,a.list];unfold I;rw[A,B];refine(A43 (K:=K) (a.Am j hj) hb st).Al ?_;rintro _ L ⟨J,c3,f⟩;obtain⟨d3,C⟩:=Hv.Am d.wf a b d.lt hb hj ((d.wf.zs j hj).fail st) J (c3.mono fun _=>.inl) f (fun y=>.inr ⟨rfl,by
   unfold Zn.fail at y;split at y<;>exact y⟩)
  exact .ret ⟨d3,C,f⟩
def kp(a b:Int):EV:=.agg [I a,I b]
def Ak7(ms:List (EV × EV)):Prop:=∀e∈ms,∃a b p n,e=(kp a b,.agg (p++[I n]))/\U8 p/\p.length=64
theorem qv(a b:Int):jC (I a) (I b)=some (decide (a=b)):=by
 show Bb (Nat.beq (Pv .i64) (Pv .i64)) (some (iE a b)) none=_;rw[cP,Aj,lr]
theorem Bml(a b c d:Int):mu (kp a b) (kp c d)=some (decide (a=c/\b=d)):=by
 show Ey [I a,I b] [I c,I d]=_;unfold Ey;rw[qv];by_cases h1:a=c
 ·rw[aQ h1]
  simp only[Ey,qv];by_cases h2:b=d
  ·rw[aQ h2,aQ ⟨h1,h2⟩]
  ·rw[aS h2,aS fun y=>h2 y.2]
 ·rw[aS h1,aS fun y=>h1 y.1]
  simp only[Ey,qv];by_cases h2:b=d
  ·rw[aQ h2]
  ·rw[aS h2]
theorem vE(a b:Int):∀(ms:List (EV × EV)) (i:Nat),Ak7 ms->Ip (kp a b) ms i=some none\/∃j p n,Ip (kp a b) ms i=some (some (j,.agg (p++[I n])))/\U8 p/\p.length=64
 | [],i,_=>.inl rfl
 | (x,y)::r,i,hm=>by
  obtain⟨f,A,p,n,e,B,C⟩:=hm _ (aW ..);cases e;have E:=vE a b r (Nat.succ i) fun e he=>hm e (aV _ he)
  unfold Ip;rw[Bml];by_cases hc:a=f/\b=A
  ·rw[aQ hc];exact .inr ⟨i,p,n,rfl,B,C⟩
  ·rw[aS hc];exact E
theorem zh(a b:Int):O6 TT 239 (kp a b)=true:=by
 have h1:TT.key 239=true:=by kernel_rfl
 have h2:TT.eqs 239=some [0,0]:=by kernel_rfl
 unfold O6 kp;simp only[h1,h2,Aj];rw[show shaped [0,0] [I a,I b]=true from rfl,Aj];simp only[Ey,qv,aB]
theorem TY{M:Nat}(f:h.get M=some (.map ms))(hm:Ak7 ms)(a b:Int):∃iR,builtin TT .delete #[116,239] [.map M,kp a b] h=some (.tuple [],h.put M (.map iR))/\Ak7 iR:=by
 have hu:TT.Ud 116=some (.map 239 254):=by kernel_rfl
 have e:builtin TT .delete #[116,239] [.map M,kp a b] h=Bb (O6 TT 239 (kp a b)) (match h.get M with
  | some (.map es)=>match Ip (kp a b) es 0 with
   | some (some (j,_))=>some (.tuple [],h.put M (.map (es.eraseIdx j)))
   | some none=>some (.tuple [],h.put M (.map es))
   | none=>none
  | _=>none) none:=by
  unfold builtin;simp only[hu];rfl
 rw[e,zh,Aj,f];rcases vE a b ms 0 hm with y|⟨j,p,n,y,_⟩
 ·simp only[y];exact⟨ms,rfl,hm⟩
 ·simp only[y];exact⟨_,rfl,fun e he=>hm e (List.mem_of_mem_eraseIdx he)⟩
theorem Biv{M:Nat}(f:h.get M=some (.map ms))(hm:Ak7 ms)(a b:Int):∃p n,pE TT 239 254 false (.map M) (kp a b) h=some (.agg (p++[I n]),h)/\U8 p/\p.length=64:=by
 have e:pE TT 239 254 false (.map M) (kp a b) h=Bb (O6 TT 239 (kp a b)) (match h.get M with
  | some (.map es)=>match Ip (kp a b) es 0 with
   | some (some (_,v))=>some (v,h)
   | some none=>oB (fun A=>some (A,h)) (zeroOf TT 254)
   | none=>none
  | _=>none) none:=rfl
 have B:zeroOf TT 254=some (.agg (Vh++[I 0])):=by kernel_rfl
 rw[e,zh,Aj,f];rcases vE a b ms 0 hm with y|⟨j,p,n,y,C,E⟩
 ·simp only[y,B];exact⟨Vh,0,rfl,U8.zs,K4⟩
 ·simp only[y];exact⟨p,n,rfl,C,E⟩
theorem A6v{M:Nat}(B:h.get M=some (.map ms))(hm:Ak7 ms)(a b:Int){p:List EV}{n:Int}(f:U8 p)(A:p.length=64):∃iR,pF TT 239 (.map M) (kp a b) (.agg (p++[I n])) h=some (.tuple [],h.put M (.map iR))/\Ak7 iR:=by
 have e:pF TT 239 (.map M) (kp a b) (.agg (p++[I n])) h=Bb (O6 TT 239 (kp a b)) (match h.get M with
  | some (.map es)=>match Ip (kp a b) es 0 with
   | some (some (j,_))=>some (.tuple [],h.put M (.map (es.set j (kp a b,.agg (p++[I n])))))
   | some none=>some (.tuple [],h.put M (.map (es++[(kp a b,.agg (p++[I n]))])))
   | none=>none
  | _=>none) none:=rfl
 rw[e,zh,Aj,B];rcases vE a b ms 0 hm with y|⟨j,C,E,y,_⟩
 ·simp only[y]
  refine⟨_,rfl,fun e he=>?_⟩;rcases bO.1 he with he|he
  ·exact hm e he
  ·rw[aP.1 he];exact⟨a,b,p,n,rfl,f,A⟩
 ·simp only[y]
  refine⟨_,rfl,fun e he=>?_⟩;rcases dO he with he|he
  ·exact hm e he
  ·rw[he];exact⟨a,b,p,n,rfl,f,A⟩
structure Le where
 Ly:Int
 kind:Int
 Am:Int
 off:Int
 pat:List EV
def Le.cells(e:Le):List EV:=[I e.Ly,I e.kind,I e.Am,I e.off]++e.pat
structure Le.Wf(e:Le):Prop where
 u8:U8 e.pat
 len:e.pat.length=64
structure Jj where
 dv:Dv
 ev:List Le
 Qc:List Le
def Btw:EV->EV->EV
 | .int k x,.int _ y=>.int k (Int.ofNat (Nat.xor x.toNat y.toNat))
 | a,_=>a
def Xr(a b:List EV):List EV:=List.zipWith Btw a b
def Dv.mG(D:Dv)(z off:Int)(p:List EV):Dv:=
 if D.has z=true/\0<=off/\off<(D.zs z.toNat).l.length then D.set z.toNat { D.zs z.toNat with l:=(D.zs z.toNat).l.set off.toNat (Xr (((D.zs z.toNat).l[off.toNat]?).getD Vh) p) }else D
def Dv.Ta(D:Dv)(e:Le):Dv:=
 if e.kind=1 then D.mG e.Am e.off e.pat else if e.kind=2 then D.fail e.Am 3 else if e.kind=3 then D.fail e.Am 4 else if e.kind=4 then D.TW else D
def kI:List Le->Dv->List Le->Jj
 | [],D,k=>⟨D,[],k⟩
 | e::r,D,k=>if D.down=true\/¬e.Ly<=D.cnt then⟨D,e::r,k⟩else kI r (D.Ta e) (k++[e])
def Jj.due(S:Jj):Jj:=kI S.ev S.dv S.Qc
structure Jj.Wf(S:Jj):Prop where
 ev:S.ev.length+S.Qc.length<=200
 wf:∀e∈S.ev,e.Wf
 hwf:∀e∈S.Qc,e.Wf
structure Agm(h:Ab)(D V M qc qh:Nat)(cs hs:EV)(ms:List (EV × EV))(S:Jj)(F G:Nat->Prop):Prop where
 C0:h.get D=some (.cells [.ptr V 0,cs,hs,.map M] 118)
 map:h.get M=some (.map ms)
 marks:Ak7 ms
 Fl:Bu h cs qc 34 68 S.ev.length (S.ev.map Le.cells).flatten
 Ap6:Bu h hs qh 34 68 S.Qc.length (S.Qc.map Le.cells).flatten
 dev:Hv h V S.dv F
 sub:(∀i,F i->G i)/\G D/\G M/\(0<S.ev.length->G qc)/\(0<S.Qc.length->G qh)
 apart:¬F D/\¬F M/\(0<S.ev.length->¬F qc)/\(0<S.Qc.length->¬F qh)/\(0<S.ev.length->0<S.Qc.length->qc≠qh)
structure Fo(h:Ab)(D:Nat)(S:Jj)(G:Nat->Prop):Prop where
 lt:∀i,G i->i<h.next
 wf:S.Wf
 Ly:∃V M qc qh cs hs ms F,Agm h D V M qc qh cs hs ms S F G
theorem Agm.mono{D M:Nat}{S:Jj}{f:Nat->Prop}(a:Agm h D V M qc qh cs hs ms S F G)(s:∀i,G i->f i):Agm h D V M qc qh cs hs ms S F f:=
 ⟨a.C0,a.map,a.marks,a.Fl,a.Ap6,a.dev,⟨fun i j=>s i (a.sub.1 i j),s _ a.sub.2.1,s _ a.sub.2.2.1,fun y=>s _ (a.sub.2.2.2.1 y),fun y=>s _ (a.sub.2.2.2.2 y)⟩,a.apart⟩
theorem Fo.mono{D:Nat}{S:Jj}{f:Nat->Prop}(d:Fo h D S G)(s:∀i,G i->f i)(l:∀i,f i->i<h.next):Fo h D S f:=by
 obtain⟨V,M,qc,qh,cs,hs,ms,F,a⟩:=d.Ly;exact⟨l,d.wf,V,M,qc,qh,cs,hs,ms,F,a.mono s⟩
theorem Fo.grow{D:Nat}{S:Jj}(d:Fo h' D S G)(l:∀i,G i->i<h.next)(n:h.next<=h'.next):Fo h' D S (Bg G h h'):=d.mono (fun _=>.inl) (Bg.lt l n)
theorem Fo.vR{D:Nat}{S:Jj}(d:Fo h2 D S (Bg (Bg G h h1) h1 h2))(a:h.next<=h1.next)(b:h1.next<=h2.next)(l:∀i,G i->i<h.next):Fo h2 D S (Bg G h h2):=
 d.mono (fun _=>Bg.trans a b) (Bg.lt l (bN a b))
theorem Agm.frame{D M:Nat}{S:Jj}(a:Agm h D V M qc qh cs hs ms S F G)(n:h.next<=h'.next)(e:∀i,G i->h'.get i=h.get i):Agm h' D V M qc qh cs hs ms S F G:=
 ⟨by rw[e _ a.sub.2.1];exact a.C0,by rw[e _ a.sub.2.2.1];exact a.map,a.marks,a.Fl.frame fun y=>e _ (a.sub.2.2.2.1 y),a.Ap6.frame fun y=>e _ (a.sub.2.2.2.2 y),a.dev.frame n fun i f=>e i (a.sub.1 i f),a.sub,a.apart⟩
theorem Fo.frame{D:Nat}{S:Jj}(d:Fo h D S G)(n:h.next<=h'.next)(e:∀i,G i->h'.get i=h.get i):Fo h' D S G:=by
 obtain⟨V,M,qc,qh,cs,hs,ms,F,a⟩:=d.Ly;exact⟨fun i f=>aL (d.lt i f) n,d.wf,V,M,qc,qh,cs,hs,ms,F,a.frame n e⟩
theorem Fo.chg{D:Nat}{S:Jj}{T:Nat->Prop}(d:Fo h D S G)(c:Aw T h h')(n:∀i,G i->¬T i):Fo h' D S G:=d.frame c.next fun i f=>c.get i (d.lt i f) (n i f)
theorem Fo.ext{D:Nat}{S:Jj}(d:Fo h D S G)(c:Ext h h'):Fo h' D S G:=d.chg c fun _ _=>id
theorem Agm.put{D M:Nat}{S:Jj}(a:Agm h D V M qc qh cs hs ms S F G)(hb:HB h)(d:Hv h' V dv (Bg F h h'))(c:Aw F h h'):
 Agm h' D V M qc qh cs hs ms { S with dv:=dv } (Bg F h h') (Bg G h h'):=by
 have lq:∀{s q n l},Bu h s q 34 68 n l->0<n->q<h.next:=fun r y=>hb _ _ (r.block y)
 have j:∀{i},¬F i->i<h.next->¬Bg F h h' i:=fun y l z=>by
  rcases z with z|z
  ·exact y z
  ·omega
 refine⟨c.at hb a.C0 a.apart.1,c.at hb a.map a.apart.2.1,a.marks,a.Fl.frame fun y=>c.get _ (lq a.Fl y) (a.apart.2.2.1 y),a.Ap6.frame fun y=>c.get _ (lq a.Ap6 y) (a.apart.2.2.2.1 y),d,⟨fun i f=>?_,.inl a.sub.2.1,.inl a.sub.2.2.1,fun y=>.inl (a.sub.2.2.2.1 y),fun y=>.inl (a.sub.2.2.2.2 y)⟩,⟨j a.apart.1 (hb _ _ a.C0),j a.apart.2.1 (hb _ _ a.map),fun y=>j (a.apart.2.2.1 y) (lq a.Fl y),fun y=>j (a.apart.2.2.2.1 y) (lq a.Ap6 y),a.apart.2.2.2.2⟩⟩;rcases f with f|f
 ·exact .inl (a.sub.1 i f)
 ·exact .inr f
theorem Fo.put{D M:Nat}{S:Jj}(s:Fo h D S G)(a:Agm h D V M qc qh cs hs ms S F G)(hb:HB h)(d:Hv h' V dv (Bg F h h'))(c:Aw F h h'):
 Fo h' D { S with dv:=dv } (Bg G h h')/\Aw G h h':=
 ⟨⟨Bg.lt s.lt c.next,⟨s.wf.ev,s.wf.wf,s.wf.hwf⟩,V,M,qc,qh,cs,hs,ms,_,a.put hb d c⟩,c.mono a.sub.1⟩
theorem Agm.sL{D M:Nat}{S:Jj}(a:Agm h D V M qc qh cs hs ms S F G)(hm:Ak7 iR):
 Agm (h.put M (.map iR)) D V M qc qh cs hs iR S F G:=by
 refine⟨?_,Af _ _ _,hm,a.Fl.frame fun y=>Ae _ ?_,a.Ap6.frame fun y=>Ae _ ?_,a.dev.frame (aD _) fun i f=>Ae _ fun y=>?_,a.sub,a.apart⟩
 ·rw[Ae _ (Av a.map a.C0 (by simp))];exact a.C0
 ·exact Av a.map (a.Fl.block y) (by simp)
 ·exact Av a.map (a.Ap6.block y) (by simp)
 ·rw[<-y]at f;exact a.apart.2.1 f
theorem Fo.sL{D M:Nat}{S:Jj}(s:Fo h D S G)(a:Agm h D V M qc qh cs hs ms S F G)(hb:HB h)(hm:Ak7 iR):
 Fo (h.put M (.map iR)) D S G/\Aw G h (h.put M (.map iR))/\HB (h.put M (.map iR)):=by
 have f:=hb _ _ a.map;exact⟨⟨s.lt,s.wf,V,M,qc,qh,cs,hs,iR,F,a.sL hm⟩,(Aw.refl h).Ao (.inl a.sub.2.2.1) f _,hb.put f _⟩
theorem BE{D M:Nat}{S:Jj}(a:Agm h D V M qc qh cs hs ms S F G):Dl K (.ptr D 0) h=some (.ptr V 0,h):=by simp only[Dl,Aa,Cy a.C0 rfl]
def TZ(disp:Nat->Option FT)(K d:Nat)(S:Jj):Prop:=∀(h:Ab) (D:Nat) (G:Nat->Prop),Fo h D S G->HB h->Ok (Ag TT disp K d false 91 [.ptr D 0] h) fun v h'=>Fo h' D S.due (Bg G h h')/\Aw G h h'/\HB h'
variable {S:Jj}
def Jj.begin(S:Jj)(i:Int):Jj:=if S.dv.has i=true then S.due else S
def lQ(disp:Nat->Option FT)(K:Nat)(S:Jj):Prop:=∀d,12<=d->TZ disp K d S
theorem sU(H:Ca disp){d:Nat}(hd:13<=d){D:Nat}(f:lQ disp K S)(s:Fo h D S G)(hb:HB h)(i:Int):
 Ok (Ag TT disp K d false 139 [.ptr D 0,I i] h) fun v h'=>Fo h' D (S.begin i) (Bg G h h')/\Aw G h h'/\HB h':=by
 obtain⟨e,rfl⟩:=d_ d;rw[Aql H a_];obtain⟨V,M,qc,qh,cs,B,ms,F,a⟩:=s.Ly;obtain⟨zl,z,q,b,_⟩:=a.dev.Ly;have fin:Ok (some (.tuple [],h)) fun(_:EV) h'=>Fo h' D S (Bg G h h')/\Aw G h h'/\HB h':=.ret ⟨s.grow s.lt (aD _),Aw.refl _,hb⟩
 unfold Jj.begin;simp only[KE,I,Ac,Aa];by_cases h0:0<=i
 ·have A:=TM (K:=K) b
  simp only[I]at A;simp only[h0,aB,Aa,Cy a.C0 rfl,A,Ac,Up];by_cases h1:i<S.dv.n
  ·have j:S.dv.has i=true:=aQ ⟨h0,h1⟩
   simp only[h1,aB,Aa];rw[j,aN rfl];refine(f e a_ h D G s hb).Al ?_;intro v h' p;exact .ret p
  ·have j:S.dv.has i=false:=aS fun y=>h1 y.2
   simp only[h1,aA,Aa];rw[j,aK (by simp)];exact fin
 ·have j:S.dv.has i=false:=aS fun y=>h0 y.1
  simp only[h0,aA,Aa,Up];rw[j,aK (by simp)];exact fin
def Jj.append(S:Jj)(i:Int)(x:List EV):Jj × Int × Int:=({ S.begin i with dv:=((S.begin i).dv.append i x).1 },((S.begin i).dv.append i x).2)
theorem BH(H:Ca disp)(hK:1000<K){d:Nat}(hd:14<=d){D:Nat}(L:lQ disp K S)(s:Fo h D S G)(hb:HB h)(i:Int)(hx:x.length=64)(hu:U8 x):
 Ok (Ag TT disp K d false 177 [.ptr D 0,I i,.agg x] h) fun v h'=>v=.tuple [I (S.append i x).2.1,I (S.append i x).2.2]/\Fo h' D (S.append i x).1 (Bg G h h')/\Aw G h h'/\HB h':=by
 obtain⟨e,rfl⟩:=d_ d;rw[An1 H a_];simp only[LX,Aa];have B:Ext h (h.new (.cells x 32)):=Aw.new _ _;have O:(h.new (.cells x 32)).get h.next=some (.cells x 32):=Ad _ _
 have C:HB (h.new (.cells x 32)):=hb.new _;have s1:=s.ext B;have n1:(h.new (.cells x 32)).next=h.next+1:=rfl
 generalize h.new (.cells x 32)=h1 at B O C s1 n1⊢;refine(sU (K:=K) H a_ L s1 C i).Al ?_;rintro _ h2 ⟨s2,c2,f⟩;have nx:¬G h.next:=fun y=>bU _ (s.lt _ y)
 have O:=c2.at C O nx;have E:Aw G h h2:=(Ext.to B).trans c2;have s2:Fo h2 D (S.begin i) (Bg G h1 h2):=s2;unfold Jj.append;generalize S.begin i=T at s2⊢;obtain⟨V,M,qc,qh,cs,X,ms,F,a⟩:=s2.Ly;have lD:=f _ _ a.C0;have l5:=f _ _ O;simp only[Aa,Ar,Cj lD,Cy a.C0 rfl,Cj l5,Cv O rfl,Ai hx];refine Ok.bC (S:=F) (A2s (K:=K) a.dev.lift (Cz f) hK i hx hu) (fun _ _ p=>p.2.2.1) ?_;rintro _ h3 h4 s' ⟨rfl,d3,_,Y⟩ sm c4 _;have J:=sm.hb Y;have d4:Hv h4 V (T.dv.append i x).1 (Bg F h2 h4):=by
  have:=d3.frame (h':=h4) (by rw[sm.next];exact aD _) fun j _=>sm.get j
  refine this.mono (fun j hj=>?_) (Bg.lt a.dev.lt c4.next);rcases hj with y|y
  ·exact .inl y
  ·exact .inr ⟨y.1,by rw[sm.next];exact y.2⟩
 have a4:=a.put f d4 c4;obtain⟨U,A⟩:=s2.put a f d4 c4;have W:Aw G h h4:=by
  refine E.then A fun j hj hl=>?_
  rcases hj with y|y
  ·exact y
  ·have:=B.next;omega
 have U:Fo h4 D { T with dv:=(T.dv.append i x).1 } (Bg G h h4):=U.mono (fun j hj=>by
  rcases hj with(y|y)|y
  ·exact .inl y
  ·have:=B.next;have:=A.next;exact .inr ⟨a_,a_⟩
  ·have:=E.next;exact .inr ⟨a_,y.2⟩) (Bg.lt s.lt W.next)
 simp only[Aa,I,Ac];by_cases hz:(T.dv.append i x).2.2=0
 ·simp only[hz,aB,Aa,Cy a4.C0 rfl]
  rw[Ax (l:=[I i,I (T.dv.append i x).2.1]) rfl];obtain⟨iR,e1,aa⟩:=TY a4.map a4.marks i (T.dv.append i x).2.1;unfold kp at e1;rw[e1,Aq];simp only[Sz,dr];obtain⟨V',M',ao,aq,au,ae,af,F',a5⟩:=U.Ly;have lM:=J _ _ a4.map;have a6:=a4.sL aa;have gM:Bg G h h4 M:=by
   rcases a.sub.2.2.1 with y|y
   ·exact .inl y
   ·have:=B.next;have:=A.next;exact .inr ⟨a_,a_⟩
  have c5:Aw (Bg G h h4) h4 (h4.put M (.map iR)):=(Aw.refl h4).Ao (.inl gM) lM _;refine .ret ⟨rfl,⟨Bg.lt s.lt (W.grow c5).next,U.wf,V,M,qc,qh,cs,X,iR,_,a6.mono fun j hj=>?_⟩,W.grow c5,J.put lM _⟩;show Bg G h h4 j;rcases hj with(y|y)|y
  ·exact .inl y
  ·have:=B.next;have:=A.next;exact .inr ⟨a_,a_⟩
  ·have:=E.next;exact .inr ⟨a_,y.2⟩
 ·simp only[hz,aA,Aa,Sz]
  exact .ret ⟨rfl,U,W,J⟩
def Jj.read(S:Jj)(i off:Int):Jj × List EV × Int:=({ S.begin i with dv:=(S.begin i).dv.begin i },(S.begin i).dv.read i off)
theorem A8d(H:Ca disp){d:Nat}(hd:14<=d){D:Nat}(E:lQ disp K S)(s:Fo h D S G)(hb:HB h)(i off:Int):
 Ok (Ag TT disp K d false 162 [.ptr D 0,I i,I off] h) fun v h'=>v=.tuple [.agg (S.read i off).2.1,I (S.read i off).2.2]/\(S.read i off).2.1.length=64/\Fo h' D (S.read i off).1 (Bg G h h')/\Aw G h h'/\HB h':=by
 obtain⟨e,rfl⟩:=d_ d;rw[Ark H a_];simp only[LW,Aa];have J:Ext h (h.new (.cells (List.replicate 64 (.int .u8 0)) 32)):=Aw.new _ _;have B:(h.new (.cells (List.replicate 64 (.int .u8 0)) 32)).get h.next=some (.cells Vh 32):=Ad _ _
 have f:HB (h.new (.cells (List.replicate 64 (.int .u8 0)) 32)):=hb.new _;have s1:=s.ext J;generalize h.new (.cells (List.replicate 64 (.int .u8 0)) 32)=h1 at J B f s1⊢;refine(sU (K:=K) H a_ E s1 f i).Al ?_;rintro _ h2 ⟨s2,c2,A⟩;have nx:¬G h.next:=fun y=>bU _ (s.lt _ y)
 have B:=c2.at f B nx;have l6:h.next<h1.next:=by
  have:=A _ _ B;rcases dJ h.next h1.next with y|y
  ·exact y
  ·exact absurd (f _ _ (show h1.get h.next=some (.cells Vh 32) by assumption)) a_
 have L:Aw G h h2:=(Ext.to J).trans c2;unfold Jj.read;generalize S.begin i=T at s2⊢;obtain⟨V,M,qc,qh,cs,Y,ms,F,a⟩:=s2.Ly;simp only[Aa,Cy a.C0 rfl];refine(A8n (K:=K) a.dev A i off).Al ?_;rintro _ W ⟨rfl,hlen,d3,c3,O⟩;obtain⟨s3,C⟩:=s2.put a A d3 c3;have X:¬Bg G h1 h2 h.next:=by
  rintro(y|y)
  ·exact nx y
  ·omega
 have B:=C.at A B X;have U:=O _ _ B;simp only[Aa];refine Ok.st (T.dv.read i off).1 B rfl (by rw[show EV.cells (.agg (T.dv.read i off).1)=(T.dv.read i off).1 from rfl,Be,hlen]) (Bl (by rw[K4];exact hlen.symm)) ?_;rw[Du (Af _ _ _) kr.1 kr.2 hlen];have cc:Aw G h W:=by
  refine L.then C fun j hj hl=>?_
  rcases hj with y|y
  ·exact y
  ·have:=J.next;omega
 have c4:Aw G h (W.put h.next (.cells (T.dv.read i off).1 32)):=cc.Ao (.inr (aD _)) U _;refine .ret ⟨rfl,hlen,?_,c4,O.put U _⟩;refine Fo.mono (s3.frame (h':=W.put h.next (.cells (T.dv.read i off).1 32)) (aD _) fun j hj=>Ae _ fun y=>?_) (fun j hj=>?_) (Bg.lt s.lt c4.next)
 ·subst y
  rcases hj with y|y
  ·exact X y
  ·have:=c2.next;omega
 ·show Bg G h W j
  rcases hj with(y|y)|y
  ·exact .inl y
  ·have:=J.next;have:=C.next;exact .inr ⟨a_,a_⟩
  ·have:=L.next;exact .inr ⟨a_,y.2⟩
def Jj.flush(S:Jj):Jj × Int:=({ S.due with dv:=S.due.dv.flush.1 },S.due.dv.flush.2)
theorem BG(H:Ca disp)(hK:1000<K){d:Nat}(hd:14<=d){D:Nat}(f:lQ disp K S)(s:Fo h D S G)(hb:HB h):
 Ok (Ag TT disp K d false 52 [.ptr D 0] h) fun v h'=>v=I S.flush.2/\Fo h' D S.flush.1 (Bg G h h')/\Aw G h h'/\HB h':=by
 obtain⟨e,rfl⟩:=d_ d;rw[Aqf H a_];simp only[LM,dr];refine(f e a_ h D G s hb).Al ?_;rintro _ h2 ⟨s2,c2,j⟩;unfold Jj.flush;generalize S.due=T at s2⊢;obtain⟨V,M,qc,qh,cs,B,ms,F,a⟩:=s2.Ly;simp only[Aa,Cy a.C0 rfl];refine(A6f (K:=K) a.dev j hK).Al ?_;rintro _ E ⟨rfl,d3,c3,A⟩;obtain⟨C,y⟩:=s2.put a j d3 c3;exact .ret ⟨rfl,C.vR c2.next y.next s.lt,c2.grow y,A⟩
def Jj.finish(S:Jj)(i:Int):Jj × Int:=({ S.begin i with dv:=((S.begin i).dv.finish i).1 },((S.begin i).dv.finish i).2)
theorem BF(H:Ca disp){d:Nat}(hd:14<=d){D:Nat}(f:lQ disp K S)(s:Fo h D S G)(hb:HB h)(i:Int):
 Ok (Ag TT disp K d false 179 [.ptr D 0,I i] h) fun v h'=>v=I (S.finish i).2/\Fo h' D (S.finish i).1 (Bg G h h')/\Aw G h h'/\HB h':=by
 obtain⟨e,rfl⟩:=d_ d;rw[An2 H a_];simp only[LY,dr];refine(sU (K:=K) H a_ f s hb i).Al ?_;rintro _ h2 ⟨s2,c2,j⟩;unfold Jj.finish;generalize S.begin i=T at s2⊢;obtain⟨V,M,qc,qh,cs,B,ms,F,a⟩:=s2.Ly;simp only[Aa,Cy a.C0 rfl];refine(A2l (K:=K) a.dev j i).Al ?_;rintro _ E ⟨rfl,d3,c3,A⟩;obtain⟨C,y⟩:=s2.put a j d3 c3;exact .ret ⟨rfl,C.vR c2.next y.next s.lt,c2.grow y,A⟩
theorem VP {D:Nat}(z:Int):∀(m i:Nat) (h:Ab),S.dv.size-i<m->Fo h D S G->HB h ->
 Ok (Ka K m (.ptr D 0) (I z) (I i) h) fun v h'=>Fo h' D S G/\Aw G h h'/\HB h':=by
 intro m;induction m with
 | zero=>intro i h hm;omega
 | succ m C=>
  intro i h hm s hb;obtain⟨V,M,qc,qh,cs,E,ms,F,a⟩:=s.Ly;obtain⟨zl,O,q,b,_⟩:=a.dev.Ly;have f:=TN (K:=K) b;have J:S.dv.size<=64:=a.dev.wf.size;simp only[I]at f;simp only[Ka,Aa,Cy a.C0 rfl,f,I,Ac];by_cases j:(i:Int)<S.dv.size
  ·simp only[j,aB,Aa,JA,Cy a.C0 rfl]
   rw[Ax (l:=[I z,I i]) rfl];obtain⟨iR,e1,y⟩:=TY a.map a.marks z i;unfold kp at e1;rw[e1,Aq];simp only[I_,I,Ac];rw[Ci];obtain⟨s2,c2,A⟩:=s.sL a hb y;refine(C (i+1) _ a_ s2 A).mono ?_;rintro v h' ⟨L,c3,B⟩;exact⟨L,c2.trans c3,B⟩
  ·simp only[j,aA,Aa]
   exact .ret ⟨s,Aw.refl _,hb⟩
end
end Go.Ev
