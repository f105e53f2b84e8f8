import Derived.Test.YtllikommdogjcaaGreatDa
set_option linter.all false
namespace Go.Ev
noncomputable section
open Go.Proofs
set_option maxRecDepth 100000
variable {k:EV->Ab->DX->R}{ex:Nat->Ab->List Nat->R}{h h' h0 h1 h2:Ab}{a op cnt:Int}{K V e i n t b2 b3 b4 d0 l0 q' qc qh ql zl cap:Nat}{o:D5}{T:Ir}{down:Bool}{ps:Nat->List Int}{v Kb cs hs happened:EV}{ms jo marks:List (EV × EV)}{x:List EV}{xs:List Int}{tm iZ:Bb}{F G:Nat->Prop}{disp:Nat->Option FT}
section
def Ax(T:Ir)(g n i:Nat)(tm:Bb)(st:LoopState)(p:Option Code)(d:Nat):D5:=.loop st p g n tm (Fw T g i).2.1 (Fw T g i).2.2.1 (Fw T g i).2.2.2 d
def Cg(T:Ir)(g n i:Nat)(tm:Bb)(h:Ab):Ab:=(h.new (.deferred true)).new (Ax T g n i tm .ready none h.next)
section
variable{g l d:Nat}{st:LoopState}{p:Option Code}{Q:EV->Ab->Prop}
theorem Kj:(Cg T g n i tm h).get (h.next+1)=some (Ax T g n i tm .ready none h.next):=Ad _ _
theorem L7:(Cg T g n i tm h).get h.next=some (.deferred true):=by
 unfold Cg;rw[Az _ (aN _)];exact Ad _ _
theorem J2:Ext h (Cg T g n i tm h):=(Av.new _ _).Db _
theorem A1s:(Cg T g n i tm h).next=h.next+2:=rfl
theorem oT {f:Ab->R}(hg:h.get l=some (Ax T g n i tm .ready p d)):Fm l h f=f (h.put l (Ax T g n i tm .busy p d)):=by
 unfold Fm;rw[hg];rfl
theorem Si {b:Bool}{st':LoopState}{j:Option Code}(hg:h.get l=some (Ax T g n i tm st p d)):Xo l b st' j h=some (.bool b,h.put l (Ax T g n i tm st' j d)):=by
 unfold Xo;rw[hg];rfl
theorem Ok.range {c:Ah}{q:Nat}{f:List EV}{ds:List Nat}{k:Ab->List Nat->R}{ret:Ab->List Nat->R}
 (hc:Ok (c q (.Vz (h.next+1)::f) (Cg T g n i tm h)) fun _ h'=>
  (h'.get (h.next+1)=some (Ax T g n i tm .ready none h.next)/\Ok (k (h'.put (h.next+1) (Ax T g n i tm .exhausted none h.next)) (h.next::ds)) Q) \/
  (h'.get (h.next+1)=some (Ax T g n i tm .done (some .ret) h.next)/\Ok (ret (h'.put (h.next+1) (Ax T g n i tm .exhausted (some .ret) h.next)) (h.next::ds)) Q)) :
 Ok (Yq c T g n i (.func q [] f) tm h ds k ex ret) Q:=by
 obtain⟨v,h',e,j⟩:=hc;have:Yq c T g n i (.func q [] f) tm h ds k ex ret=ot (h.next+1) (c q (.Vz (h.next+1)::f) (Cg T g n i tm h)) (fun h'=>k h' (h.next::ds)) (fun id h'=>ex id h' (h.next::ds)) (fun h'=>ret h' (h.next::ds)):=rfl;rw[this,e];unfold ot;simp only;rcases j with⟨a,b⟩|⟨a,b⟩
 ·rw[a];exact b
 ·rw[a];exact b
theorem Ok.unwind:∀{ds:List Nat} {h:Ab} {k:Ab->R},ds.Nodup->(∀d∈ds,h.get d=some (.deferred true))->HB h->(∀h',Av (fun i=>i∈ds) h h'->h'.next=h.next->Ok (k h') Q)->Ok (Gb ds h k) Q
 | [],h,k,_,_,_,j=>j h (Av.refl _) rfl
 | d::ds,h,k,hn,hd,hb,j=>by
  obtain⟨A,B⟩:=cF.1 hn;have f:=hd d aW;have ld:=hb _ _ f;have e:Gb (d::ds) h k=Gb ds (h.put d (.deferred false)) k:=by
   show(match h.get d with|some (.deferred true)=>Gb ds (h.put d (.deferred false)) k|_=>none)=_;rw[f]
  rw[e];refine Ok.unwind B (fun x C=>?_) (hb.put ld _) fun h' c n=>j h' ?_ (by rw[n];rfl)
  ·rw[Af _ (fun y=>A (by rw[y];exact C))];exact hd x (aT _ C)
  ·exact((Av.refl h).Ar (S:=fun i=>i∈d::ds) (.inl aW) ld _).trans (c.mono fun i E=>aT _ E)
end
structure Kp(S:Nat->Prop)(h0 h:Ab):Prop where
 chg:Av S h0 h
 same:∀i,i<h0.next->h.get i=h0.get i
theorem Kp.refl {S:Nat->Prop}(h:Ab):Kp S h h:=⟨Av.refl _,fun _ _=>rfl⟩
theorem Ext.kp {S:Nat->Prop}(x:Ext h0 h):Kp S h0 h:=⟨Ext.to x,fun i f=>x.get i f id⟩
theorem Kp.trans {S:Nat->Prop}{a b c:Ab}(x:Kp S a b)(y:Kp S b c):Kp S a c:=⟨x.chg.trans y.chg,fun i f=>by rw[y.same i (aM f x.chg.next),x.same i f]⟩
theorem Kp.Ar {S:Nat->Prop}(x:Kp S h0 h)(f:h0.next<=i)(hn:i<h.next)(o:D5):Kp S h0 (h.put i o):=
 ⟨x.chg.Ar (.inr f) hn o,fun j hj=>by rw[Af _];exact x.same j hj⟩
theorem Kp.at {S:Nat->Prop}(x:Kp S h0 h)(hb:HB h0)(g:h0.get i=some o):h.get i=some o:=by rw[x.same i (hb _ _ g)];exact g
theorem Kp.ug {S T:Nat->Prop}{a b c:Ab}(x:Kp S a b)(y:Av T b c)(st:∀i,T i->a.next<=i):Kp S a c:=
 ⟨x.chg.then y fun i f A=>by have:=st i f;omega,fun i f=>by rw[y.get i (aM f x.chg.next) fun j=>by have:=st i j;omega,x.same i f]⟩
end
section
structure Gm where
 D:Int
 Z:Int
 S:Int
 B:Int
 P:Int
 O:Int
def gL(g:Gm):List EV:=[I g.D,I g.Z,I g.S,I g.B,I g.P,I g.O]
def gV(g:Gm):EV:=.agg (gL g)
def Gm.parts(g:Gm):Int:=1+(g.B+1)/2
def Gm.E7(g:Gm):Int:=g.D*g.P+4
def Gm.least(g:Gm):Int:=min ((g.D-1)*(g.Z-g.P-2)-g.E7+1) (g.D*(g.Z-g.P-2)-2*g.E7+1)
def Gm.segments(g:Gm):Int:=g.least/2-1-g.D*g.P
def wi(n a b:Int):Bool:=decide (a<=n)&&decide (n<=b)
theorem Fk {n b:Int}:wi n a b=true↔a<=n/\n<=b:=by simp[wi]
def kQ(g:Gm):Bool:=wi g.D 3 8&&wi g.Z 1 64&&wi g.S 4 64&&wi g.B 1 256&&wi g.P 0 4&&wi g.O 4 64
def rtB(g:Gm):Bool:=kQ g&&(decide (g.parts<=g.S)&&decide (2*g.B<=g.S*g.segments))
structure Sm(g:Gm):Prop where
 d0:3<=g.D
 d1:g.D<=8
 z0:1<=g.Z
 z1:g.Z<=64
 s0:4<=g.S
 s1:g.S<=64
 b0:1<=g.B
 b1:g.B<=256
 p0:0<=g.P
 p1:g.P<=4
 o0:4<=g.O
 o1:g.O<=64
theorem V6 {g:Gm}(h:kQ g=true):Sm g:=by
 simp only[kQ,aV,Fk]at h;exact⟨h.1.1.1.1.1.1,h.1.1.1.1.1.2,h.1.1.1.1.2.1,h.1.1.1.1.2.2,h.1.1.1.2.1,h.1.1.1.2.2,h.1.1.2.1,h.1.1.2.2,h.1.2.1,h.1.2.2,h.2.1,h.2.2⟩
theorem Jp {g:Gm}(h:rtB g=true):Sm g:=V6 (by unfold rtB at h;exact((aV _ _).mp h).1)
theorem Rl {b A B:Int}(h0:0<=a:=by omega)(h1:a<=A:=by omega)(h2:0<=b:=by omega)(f:b<=B:=by omega):0<=a*b/\a*b<=A*B:=
 ⟨dX h0 h2,Int.mul_le_mul h1 f h2 (Int.le_trans h0 h1)⟩
theorem wg {b A B:Int}(h0:0<=a:=by omega)(h1:a<=A:=by omega)(h2 : -B<=b:=by omega)(f:b<=B:=by omega)(j:0<=B:=by omega): -(A*B)<=a*b/\a*b<=A*B:=by
 have e1:a*b<=a*B:=bU f h0;have e2:a*B<=A*B:=fL h1 j;have e3:a*(-B)<=a*b:=bU h2 h0;rw[Int.mul_neg]at e3;omega
theorem Buj{k:EV->R}:iQ (bin T .shr t) (.int .i64 a) (.int .u64 1) k=k (.int .i64 (a/2)):=by
 cases a with
 | ofNat a=>
  show k (.int .i64 (.ofNat (Nat.shiftRight a 1)))=_;rw[show Nat.shiftRight a 1=a/2 from Nat.shiftRight_succ a 0];rfl
 | negSucc a=>
  show k (.int .i64 ((Int.negSucc a).fdiv (.ofNat 2)))=_;rw[gA _ c_];rfl
theorem Bo4(a b:Int):kI a b=decide (a<b):=by rw[<-yk,sC]
theorem min2{f:Array TypeId}{b:Int}:builtin T .min f [.int .i64 a,.int .i64 b] h=some (.int .i64 (min a b),h):=by
 simp only[builtin,iH,Bk,Bo4];rw[Bqr];by_cases h1:b<a
 ·rw[aI h1,Int.min_eq_right a_]
 ·rw[aG h1,Int.min_eq_left a_]
theorem zX(n a b:Int)(h:Ab):L6 K (I n) (I a) (I b) h=some (.bool (wi n a b),h):=by
 simp only[L6,GA,I,Ac,Bsc];by_cases h1:a<=n
 ·simp only[h1,aC,Al,dz,FR,wi,bF]
 ·simp only[h1,aA,Bk,dz,FR,wi,bB]
theorem A3y(g:Gm)(h:Ab):Vt K (gV g) h=some (.bool (kQ g),h.new (.cells (gL g) 23)):=by
 simp only[Vt,gV,Aa];have hg:(h.new (.cells (gL g) 23)).get h.next=some (.cells (gL g) 23):=Ad _ _
 generalize h.new (.cells (gL g) 23)=h1 at hg⊢;have w:=fun n a b=>zX (K:=K) n a b h1
 simp only[I]at w;simp only[Aa,Cy hg rfl,gL,I,w,Ac];unfold kQ;cases wi g.D 3 8 with
 | false=>simp only[Aa,Ac,Hp,Ho,Hm,Hn,Hq,bB]
 | true=>
 simp only[Aa,Cy hg rfl,gL,I,w,Ac,Hp];cases wi g.Z 1 64 with
 | false=>simp only[Aa,Ac,Hp,Ho,Hm,Hn,Hq,bB,dV]
 | true=>
 simp only[Aa,Cy hg rfl,gL,I,w,Ac,Ho];cases wi g.S 4 64 with
 | false=>simp only[Aa,Ac,Hp,Ho,Hm,Hn,Hq,bB,dV]
 | true=>
 simp only[Aa,Cy hg rfl,gL,I,w,Ac,Hm];cases wi g.B 1 256 with
 | false=>simp only[Aa,Ac,Hp,Ho,Hm,Hn,Hq,bB,dV]
 | true=>
 simp only[Aa,Cy hg rfl,gL,I,w,Ac,Hn];cases wi g.P 0 4 with
 | false=>simp only[Aa,Ac,Hp,Ho,Hm,Hn,Hq,bB,dV]
 | true=>
 simp only[Aa,Cy hg rfl,gL,I,w,Ac,Hq,bF]
theorem uc {g:Gm}(s:Sm g)(h:Ab):I5 K (gV g) h=some (I g.parts,h.new (.cells (gL g) 23)):=by
 have:=s.b0;have:=s.b1;simp only[I5,gV,Aa];have hg:(h.new (.cells (gL g) 23)).get h.next=some (.cells (gL g) 23):=Ad _ _
 generalize h.new (.cells (gL g) 23)=h1 at hg⊢;simp only[Aa,Cy hg rfl,gL,I,Ac];rw[Ch (n:=g.B+2),Ch (n:=g.B+2-1),sB a_ a_ a_];simp only[Ac];rw[Ch];rw[show 1+(g.B+2-1)/2=g.parts by unfold Gm.parts;rw[show g.B+2-1=g.B+1 from a_]]
theorem UL {g:Gm}(s:Sm g)(h:Ab):N4 K (gV g) h=some (I g.E7,h.new (.cells (gL g) 23)):=by
 have:=s.d0;have:=s.d1;have:=s.p0;have:=s.p1;obtain⟨f,m1⟩:=Rl (a:=g.D) (b:=g.P) (A:=8) (B:=4);simp only[N4,gV,Aa];have hg:(h.new (.cells (gL g) 23)).get h.next=some (.cells (gL g) 23):=Ad _ _
 generalize h.new (.cells (gL g) 23)=h1 at hg⊢;simp only[Aa,Cy hg rfl,gL,I,Ac];rw[Ch (n:=g.D*g.P),Ch];rfl
theorem N8 {g:Gm}(s:Sm g)(h:Ab):Ds K (gV g) h=some (I (g.D*g.Z),h.new (.cells (gL g) 23)):=by
 have:=s.d0;have:=s.d1;have:=s.z0;have:=s.z1;obtain⟨f,m1⟩:=Rl (a:=g.D) (b:=g.Z) (A:=8) (B:=64);simp only[Ds,gV,Aa];have hg:(h.new (.cells (gL g) 23)).get h.next=some (.cells (gL g) 23):=Ad _ _
 generalize h.new (.cells (gL g) 23)=h1 at hg⊢;simp only[Aa,Cy hg rfl,gL,I,Ac];rw[Ch (n:=g.D*g.Z)]
theorem Sm.zY {g:Gm}(s:Sm g):(0<=g.D*g.P/\g.D*g.P<=32)/\(-640<=(g.D-1)*(g.Z-g.P-2)/\(g.D-1)*(g.Z-g.P-2)<=640)/\(-640<=g.D*(g.Z-g.P-2)/\g.D*(g.Z-g.P-2)<=640):=by
 have:=s.d0;have:=s.d1;have:=s.p0;have:=s.p1;have:=s.z0;have:=s.z1;obtain⟨f,j⟩:=Rl (a:=g.D) (b:=g.P) (A:=8) (B:=4);obtain⟨b0,b1⟩:=wg (a:=g.D-1) (b:=g.Z-g.P-2) (A:=10) (B:=64);obtain⟨c0,c1⟩:=wg (a:=g.D) (b:=g.Z-g.P-2) (A:=10) (B:=64);omega
theorem Ax0 {g:Gm}(s:Sm g)(h:Ab):Ok (Qg K (gV g) h) fun v h'=>v=I g.segments/\Ext h h':=by
 obtain⟨⟨J,L⟩,⟨b0,b1⟩,c0,c1⟩:=s.zY;have:=s.d0;have:=s.d1;have:=s.p0;have:=s.p1;have:=s.z0;have:=s.z1;simp only[Qg,gV,Aa];have hg:(h.new (.cells (gL g) 23)).get h.next=some (.cells (gL g) 23):=Ad _ _
 have hn:h.next<(h.new (.cells (gL g) 23)).next:=aN _
 have j:Ext h (h.new (.cells (gL g) 23)):=Av.new _ _;generalize h.new (.cells (gL g) 23)=h1 at hg hn j⊢;simp only[Aa,As,Cq hn,Cy hg rfl,Cz hg rfl,Ak (show(gL g).length=6 from rfl),gL,I,Ac];rw[Ch (n:=g.Z-g.P),Ch (n:=g.Z-g.P-2)];refine Ok.bE (P:=fun v h2=>v=I g.E7/\Ext h1.lift h2) ⟨_,_,UL s _,rfl,Av.new _ _⟩ (fun _ _ p=>p.2) ?_;rintro _ h2 A ⟨rfl,_⟩ _ y;have f:A.get h.next=some (.cells (gL g) 23):=by rw[y.get _ hn id];exact hg
 simp only[Aa,Cy f rfl,gL,I,Ac];unfold Gm.E7;rw[Ch (n:=g.D-1),Ch (n:=(g.D-1)*(g.Z-g.P-2)),Ch (n:=(g.D-1)*(g.Z-g.P-2)-(g.D*g.P+4)),Ch (n:=(g.D-1)*(g.Z-g.P-2)-(g.D*g.P+4)+1),
  Ch (n:=g.D*(g.Z-g.P-2)),Ch (n:=2*(g.D*g.P+4)),Ch (n:=g.D*(g.Z-g.P-2)-2*(g.D*g.P+4)),Ch (n:=g.D*(g.Z-g.P-2)-2*(g.D*g.P+4)+1),
  min2,Au,Buj]
 simp only[Ac,Aa,Cy f rfl,gL,I];have B:g.least=min ((g.D-1)*(g.Z-g.P-2)-(g.D*g.P+4)+1) (g.D*(g.Z-g.P-2)-2*(g.D*g.P+4)+1):=rfl;rw[<-B];have C : -10000<=g.least:=a_
 have E:g.least<=10000:=a_
 rw[Ch (n:=g.least/2-1),Ch (n:=g.D*g.P),Ch (n:=g.least/2-1-g.D*g.P)];exact .ret ⟨rfl,j.trans y⟩
end
theorem VZ {g:Gm}(s:Sm g): -2000<=g.segments/\g.segments<=2000:=by
 obtain⟨⟨f,j⟩,⟨b0,b1⟩,c0,c1⟩:=s.zY;have y:g.least=min ((g.D-1)*(g.Z-g.P-2)-(g.D*g.P+4)+1) (g.D*(g.Z-g.P-2)-2*(g.D*g.P+4)+1):=rfl;have hs:g.segments=g.least/2-1-g.D*g.P:=rfl;omega
theorem uj(g:Gm)(h:Ab):Ok (Nl K (gV g) h) fun v h'=>v=.bool (rtB g)/\Ext h h':=by
 simp only[Nl,gV,Aa];have hg:(h.new (.cells (gL g) 23)).get h.next=some (.cells (gL g) 23):=Ad _ _
 have hn:h.next<(h.new (.cells (gL g) 23)).next:=aN _
 have C:Ext h (h.new (.cells (gL g) 23)):=Av.new _ _;generalize h.new (.cells (gL g) 23)=h1 at hg hn C⊢;simp only[Aa,As,Cq hn,Cy hg rfl,Cz hg rfl,Ak (show(gL g).length=6 from rfl)];refine Ok.bE (P:=fun v h2=>v=.bool (kQ g)/\Ext h1.lift h2) ⟨_,_,A3y g _,rfl,Av.new _ _⟩ (fun _ _ p=>p.2) ?_;rintro _ h2 J ⟨rfl,_⟩ _ E;have y:J.get h.next=some (.cells (gL g) 23):=by rw[E.get _ hn id];exact hg
 unfold rtB;cases hs:kQ g with
 | false=>simp only[Aa,Ac,Qd,Mr,bB];exact .ret ⟨rfl,C.trans E⟩
 | true=>
 have s:=V6 hs;have:=s.b0;have:=s.b1;simp only[Aa,Ac,As,Cq hn,Cy y rfl,Cz y rfl,Ak (show(gL g).length=6 from rfl),bF];refine Ok.bE (P:=fun v h4=>v=I g.parts/\Ext J.lift h4) ⟨_,_,uc s _,rfl,Av.new _ _⟩ (fun _ _ p=>p.2) ?_;rintro _ h4 L ⟨rfl,_⟩ _ O;have f:=E.trans O;have j:L.get h.next=some (.cells (gL g) 23):=by rw[f.get _ hn id];exact hg
 simp only[Aa,Ac,As,Cq hn,Cy j rfl,gL,I,Qd];by_cases hp:g.parts<=g.S
 ·simp only[hp,aC,Aa,As,Cq hn,Cy j rfl,Cz j rfl,Ak (show(gL g).length=6 from rfl),gL,I,Ac,bF]
  refine Ok.bE (Ax0 s _) (fun _ _ p=>p.2) ?_;rintro _ W X ⟨rfl,_⟩ _ U;obtain⟨t0,t1⟩:=VZ s;have:=s.s0;have:=s.s1;obtain⟨Y,m1⟩:=wg (a:=g.S) (b:=g.segments) (A:=64) (B:=2000);simp only[Ac,I,Mr,Aa];rw[Ch (n:=2*g.B),Ch (n:=g.S*g.segments)];exact .ret ⟨rfl,C.trans (f.trans U)⟩
 ·simp only[hp,aA,Aa,Ac,Mr,bB]
  exact .ret ⟨rfl,C.trans f⟩
theorem Bo7 {n:Int}(h0 : -100000<=n)(h1:n<=100000)(h:Ab):Pb K (I n) h=some (I (n/2),h):=by
 simp only[Pb,I,Ac,Aa];by_cases hn:n<0
 ·simp only[hn,aC,Aa,Ac]
  rw[Ch,sB a_ a_ a_];simp only[Bmy];rw[Ch,show 0-(1-n)/2=n/2 from a_]
 ·simp only[hn,aA,Aa,Y5]
  rw[sB a_ a_ a_]
theorem Ba4 {g:Gm}(s:Sm g){a:Nat}(hg:h.get a=some (.cells (gL g) 61)):∀(m:Nat) (i:Int),0<=i->(g.B-i).toNat<m->i<=g.B+1->i%2=0 ->
 Gt K m (.ptr a 0) (I (1+i/2)) (I i) h=some (I g.parts,h):=by
 have:=s.b0;have:=s.b1;intro m;induction m with
 | zero=>intro i _ hm;omega
 | succ m j=>
  intro i A hm hle y;simp only[Gt,Aa,Ac,Cy hg rfl,gL,I];by_cases f:i<g.B
  ·simp only[f,aC,Aa,Ac,Uk,Ub]
   rw[Ch (n:=1+i/2+1),Ch (n:=i+2),show 1+i/2+1=1+(i+2)/2 from a_];exact j (i+2) a_ a_ a_ a_
  ·simp only[f,aA,Aa,Uf]
   unfold Gm.parts;rw[show 1+i/2=1+(g.B+1)/2 from a_]
theorem Bgf {g:Gm}(s:Sm g)(hK:1000<K)(h:Ab):Lq K (gV g) h=some (I g.parts,h.new (.cells (gL g) 61)):=by
 have:=s.b0;have:=s.b1;simp only[Lq,gV,Aa];exact Ba4 s (Ad _ _) K 0 a_ a_ a_ a_
theorem A7n {g:Gm}(s:Sm g)(h:Ab):Ok (I7 K (gV g) h) fun v h'=>v=I g.segments/\Ext h h':=by
 obtain⟨⟨C,E⟩,⟨b0,b1⟩,c0,c1⟩:=s.zY;have:=s.d0;have:=s.d1;have:=s.p0;have:=s.p1;have:=s.z0;have:=s.z1;simp only[I7,gV,Aa];have hg:(h.new (.cells (gL g) 61)).get h.next=some (.cells (gL g) 61):=Ad _ _
 have hn:h.next<(h.new (.cells (gL g) 61)).next:=aN _
 have y:Ext h (h.new (.cells (gL g) 61)):=Av.new _ _;generalize h.new (.cells (gL g) 61)=h1 at hg hn y⊢;have J:g.least=min ((g.D-1)*(g.Z-g.P-2)-(g.D*g.P+4)+1) (g.D*(g.Z-g.P-2)-2*(g.D*g.P+4)+1):=rfl;have fin:∀n,n=g.least->Ok (K1 K (.ptr h.next 0) (I n) h1) fun v h'=>v=I g.segments/\Ext h h':=by
  rintro _ rfl;simp only[K1,Aa];refine Ok.bE (P:=fun v h2=>v=I (g.least/2)/\Ext h1.lift h2) ⟨_,_,Bo7 a_ a_ _,rfl,Av.refl _⟩ (fun _ _ p=>p.2) ?_;rintro _ h2 B ⟨rfl,_⟩ _ A;have j:B.get h.next=some (.cells (gL g) 61):=by rw[A.get _ hn id];exact hg
  simp only[Aa,As,Cq hn,Cy j rfl,gL,I,Ac];rw[Ch (n:=g.least/2-1),Ch (n:=g.D*g.P),Ch (n:=g.least/2-1-g.D*g.P)];exact .ret ⟨rfl,y.trans A⟩
 simp only[Aa,Cy hg rfl,gL,I,Ac];rw[Ch (n:=g.Z-g.P),Ch (n:=g.Z-g.P-2),Ch (n:=g.D*g.P),Ch (n:=g.D*g.P+4),
  Ch (n:=g.D-1),Ch (n:=(g.D-1)*(g.Z-g.P-2)),Ch (n:=(g.D-1)*(g.Z-g.P-2)-(g.D*g.P+4)),Ch (n:=(g.D-1)*(g.Z-g.P-2)-(g.D*g.P+4)+1),
  Ch (n:=g.D*(g.Z-g.P-2)),Ch (n:=2*(g.D*g.P+4)),Ch (n:=g.D*(g.Z-g.P-2)-2*(g.D*g.P+4)),Ch (n:=g.D*(g.Z-g.P-2)-2*(g.D*g.P+4)+1)]
 by_cases f:g.D*(g.Z-g.P-2)-2*(g.D*g.P+4)+1<(g.D-1)*(g.Z-g.P-2)-(g.D*g.P+4)+1
 ·simp only[f,aC,Aa]
  exact fin _ a_
 ·simp only[f,aA,Aa]
  exact fin _ a_
theorem Bio(g:Gm)(hK:1000<K)(h:Ab):Ok (Il K (gV g) h) fun v h'=>v=.bool (rtB g)/\Ext h h':=by
 simp only[Il,gV,Aa];have hg:(h.new (.cells (gL g) 61)).get h.next=some (.cells (gL g) 61):=Ad _ _
 have hn:h.next<(h.new (.cells (gL g) 61)).next:=aN _
 have y:Ext h (h.new (.cells (gL g) 61)):=Av.new _ _;generalize h.new (.cells (gL g) 61)=h1 at hg hn y⊢;have no:∀b,b=false->Ok (some (.bool false,h1)) fun v h'=>v=.bool (b&&(decide (g.parts<=g.S)&&decide (2*g.B<=g.S*g.segments)))/\Ext h h':=by
  rintro _ rfl;exact .ret ⟨by rw[bB],y⟩
 unfold rtB;have f:∀{p:Prop} [Decidable p],¬p->(kQ g=true->p)->kQ g=false:=fun hp hq=>by
  cases hb:kQ g with
  | false=>rfl
  | true=>exact absurd (hq hb) hp
 simp only[Aa,Cy hg rfl,gL,I,Ac];by_cases c1:g.D<3
 ·simp only[c1,aC,Aa,Ac,Ij,Ge,E3,Eg,Dw,C0,Cu,Cm,Cd,By,Bv]
  exact no _ (f (p:=¬g.D<3) (by simpa using c1) fun hb=>by have:=(V6 hb).d0;omega)
 simp only[c1,aA,Aa,Ac,Cy hg rfl,gL,I,Ij];by_cases c2:8<g.D
 ·simp only[c2,aC,Aa,Ac,Ge,E3,Eg,Dw,C0,Cu,Cm,Cd,By,Bv]
  exact no _ (f (p:=¬8<g.D) (by simpa using c2) fun hb=>by have:=(V6 hb).d1;omega)
 simp only[c2,aA,Aa,Ac,Cy hg rfl,gL,I,Ge];by_cases c3:g.Z<1
 ·simp only[c3,aC,Aa,Ac,E3,Eg,Dw,C0,Cu,Cm,Cd,By,Bv]
  exact no _ (f (p:=¬g.Z<1) (by simpa using c3) fun hb=>by have:=(V6 hb).z0;omega)
 simp only[c3,aA,Aa,Ac,Cy hg rfl,gL,I,E3];by_cases c4:64<g.Z
 ·simp only[c4,aC,Aa,Ac,Eg,Dw,C0,Cu,Cm,Cd,By,Bv]
  exact no _ (f (p:=¬64<g.Z) (by simpa using c4) fun hb=>by have:=(V6 hb).z1;omega)
 simp only[c4,aA,Aa,Ac,Cy hg rfl,gL,I,Eg];by_cases C:g.S<4
 ·simp only[C,aC,Aa,Ac,Dw,C0,Cu,Cm,Cd,By,Bv]
  exact no _ (f (p:=¬g.S<4) (by simpa using C) fun hb=>by have:=(V6 hb).s0;omega)
 simp only[C,aA,Aa,Ac,Cy hg rfl,gL,I,Dw];by_cases E:64<g.S
 ·simp only[E,aC,Aa,Ac,C0,Cu,Cm,Cd,By,Bv]
  exact no _ (f (p:=¬64<g.S) (by simpa using E) fun hb=>by have:=(V6 hb).s1;omega)
 simp only[E,aA,Aa,Ac,Cy hg rfl,gL,I,C0];by_cases J:g.B<1
 ·simp only[J,aC,Aa,Ac,Cu,Cm,Cd,By,Bv]
  exact no _ (f (p:=¬g.B<1) (by simpa using J) fun hb=>by have:=(V6 hb).b0;omega)
 simp only[J,aA,Aa,Ac,Cy hg rfl,gL,I,Cu];by_cases L:256<g.B
 ·simp only[L,aC,Aa,Ac,Cm,Cd,By,Bv]
  exact no _ (f (p:=¬256<g.B) (by simpa using L) fun hb=>by have:=(V6 hb).b1;omega)
 simp only[L,aA,Aa,Ac,Cy hg rfl,gL,I,Cm];by_cases U:g.P<0
 ·simp only[U,aC,Aa,Ac,Cd,By,Bv]
  exact no _ (f (p:=¬g.P<0) (by simpa using U) fun hb=>by have:=(V6 hb).p0;omega)
 simp only[U,aA,Aa,Ac,Cy hg rfl,gL,I,Cd];by_cases d1:4<g.P
 ·simp only[d1,aC,Aa,Ac,By,Bv]
  exact no _ (f (p:=¬4<g.P) (by simpa using d1) fun hb=>by have:=(V6 hb).p1;omega)
 simp only[d1,aA,Aa,Ac,Cy hg rfl,gL,I,By];by_cases d2:g.O<4
 ·simp only[d2,aC,Aa,Ac,Bv]
  exact no _ (f (p:=¬g.O<4) (by simpa using d2) fun hb=>by have:=(V6 hb).o0;omega)
 simp only[d2,aA,Aa,Ac,Cy hg rfl,gL,I,Bv];by_cases d3:64<g.O
 ·simp only[d3,aC,Aa]
  exact no _ (f (p:=¬64<g.O) (by simpa using d3) fun hb=>by have:=(V6 hb).o1;omega)
 have hs:kQ g=true:=by
  simp only[kQ,aV,Fk];omega
 have s:=V6 hs;rw[hs];simp only[d3,aA,Aa,Ac,Uj,As,Cq hn,Cz hg rfl,Ak (show(gL g).length=6 from rfl),bF];refine Ok.bE (P:=fun v h4=>v=I g.parts/\Ext h1.lift h4) ⟨_,_,Bgf s hK _,rfl,Av.new _ _⟩ (fun _ _ p=>p.2) ?_;rintro _ h4 X ⟨rfl,_⟩ _ W;have j:X.get h.next=some (.cells (gL g) 61):=by rw[W.get _ hn id];exact hg
 simp only[Aa,Ac,As,Cq hn,Cy j rfl,gL,I];by_cases hp:g.parts<=g.S
 ·simp only[hp,aC,Aa,As,Cq hn,Cy j rfl,Cz j rfl,Ak (show(gL g).length=6 from rfl),gL,I,Ac,bF]
  refine Ok.bE (A7n s _) (fun _ _ p=>p.2) ?_;rintro _ h6 h7 ⟨rfl,_⟩ _ Y;obtain⟨t0,t1⟩:=VZ s;have:=s.s0;have:=s.s1;have:=s.b0;have:=s.b1;obtain⟨m0,m1⟩:=wg (a:=g.S) (b:=g.segments) (A:=64) (B:=2000);simp only[Ac,I,Ja,Aa];rw[Ch (n:=2*g.B),Ch (n:=g.S*g.segments)];exact .ret ⟨rfl,y.trans (W.trans Y)⟩
 ·simp only[hp,aA,Aa,Ac,Ja,bB]
  exact .ret ⟨rfl,y.trans W⟩
theorem A5v(h1:1<=n)(h2:n<=4096)(h:Ab):uC K (I n) h=some (.tuple [.ptr (h.next+1) 0,I 0],(h.new (.chan n [])).new (.cells [.chan h.next] 169)):=by
 simp only[uC,I,Ac,Aa];have a:¬(n:Int)<1:=a_
 have b:¬(4096:Int)<(n:Int):=a_
 simp only[a,b,aA,Aa,Ac,F_,FZ];have hm:uB (.int .i64 (n:Int)) h=some (.chan h.next,h.new (.chan n [])):=by
  show Bc (Nat.ble n 65536) _ none=_;rw[aR a_,Al]
 rw[hm,Au,Ay (l:=[.chan h.next]) rfl];simp only[Aa];rfl
structure Fi(h:Ab)(p ql n:Nat)(q c:Nat->Nat)(g:Gm)(ps:Nat->List Int):Prop where
 pos:0<n
 G3:h.get p=some (.cells (gL g++[.slice ql 0 n n true]) 131)
 row:h.get ql=some (.vec ((List.range n).map fun d=>.ptr (q d) 0) 133 1)
 que:∀d,d<n->h.get (q d)=some (.cells [.chan (c d)] 169)
 chan:∀d,d<n->h.get (c d)=some (.chan g.Z.toNat ((ps d).map I))
 inj:∀d e,d<n->e<n->c d=c e->d=e
structure zZ(h0 h:Ab)(p ql i:Nat)(q c:Nat->Nat)(g:Gm)(s:EV):Prop where
 G3:h.get p=some (.cells (gL g++[s]) 131)
 row:Ce h s ql 133 1 i ((List.range i).map fun d=>.ptr (q d) 0)
 que:∀d,d<i->h.get (q d)=some (.cells [.chan (c d)] 169)
 chan:∀d,d<i->h.get (c d)=some (.chan g.Z.toNat [])
 inj:∀d e,d<i->e<i->c d=c e->d=e
 new:h0.next<=p/\(0<i->h0.next<=ql)/\∀d,d<i->h0.next<=q d/\h0.next<=c d
 ext:Ext h0 h
 hb:HB h
theorem A27 {g:Gm}(s:Sm g)(h0:Ab){b p:Nat}(aa:b<h0.next)(hg:h0.get b=some (.cells (gL g) 23)):∀(m i:Nat) (ql:Nat) (q c:Nat->Nat) (A:EV) (h:Ab),g.D.toNat-i<m->i<=g.D.toNat->zZ h0 h p ql i q c g A ->
 Ok (sI K m (.ptr b 0) (.ptr p 0) (I g.D) (I i) h) fun v h'=>v=.tuple [.ptr p 0,I 0]/\Ext h0 h'/\HB h'/\∃ql q c A,zZ h0 h' p ql g.D.toNat q c g A:=by
 have:=s.d0;have:=s.d1;have:=s.z0;have:=s.z1;intro m;induction m with
 | zero=>intro i _ _ _ _ _ hm;omega
 | succ m ih=>
  intro i ql q c A h hm hi P;simp only[sI,I,Ac,Aa];by_cases L:(i:Int)<g.D
  ·have ab:h.get b=some (.cells (gL g) 23):=by rw[P.ext.get _ aa id];exact hg
   simp only[L,aC,Aa,GS,Cy ab rfl,gL,I];have hq:=A5v (K:=K) (n:=g.Z.toNat) a_ a_ h;rw[gG a_]at hq;simp only[I]at hq;simp only[hq,Aa,Ac,aB,aA,GR];have e1:Ext h ((h.new (.chan g.Z.toNat [])).new (.cells [.chan h.next] 169)):=(Av.new _ _).trans (Av.new _ _);have y:HB ((h.new (.chan g.Z.toNat [])).new (.cells [.chan h.next] 169)):=(P.hb.new _).new _;have gq:((h.new (.chan g.Z.toNat [])).new (.cells [.chan h.next] 169)).get (h.next+1)=some (.cells [.chan h.next] 169):=Ad _ _;have gc:((h.new (.chan g.Z.toNat [])).new (.cells [.chan h.next] 169)).get h.next=some (.chan g.Z.toNat []):=by rw[Az _ (aN _)];exact Ad _ _
   have n1:((h.new (.chan g.Z.toNat [])).new (.cells [.chan h.next] 169)).next=h.next+2:=rfl
   generalize (h.new (.chan g.Z.toNat [])).new (.cells [.chan h.next] 169)=h1 at e1 y gq gc n1⊢;have gp:h1.get p=some (.cells (gL g++[A]) 131):=e1.at P.hb P.G3;have E:Ce h1 A ql 133 1 i ((List.range i).map fun d=>.ptr (q d) 0):=P.row.frame fun hl=>e1.get _ (P.hb _ _ (P.row.block hl)) id
   have lp:=P.hb _ _ P.G3;rw[Cy gp rfl,show(gL g++[A])[6]? = some A from rfl,Hf];refine Ml (z:=[.Cl]) E y rfl rfl rfl a_ a_ ?_;intro h2 J n2 c2;have n0:=P.ext.next
   have B:∀x o,h1.get x=some o->(∀l e sz,o≠.vec l e sz)->¬(0<i/\x=ql):=by
    rintro x o Y O ⟨hl,rfl⟩;rw[E.block hl]at Y;cases Y;exact O _ _ _ rfl
   have W:h2.get p=some (.cells (gL g++[A]) 131):=c2.at y gp (B _ _ gp (by intros;simp));refine Ok.st (gL g++[EV.slice (h1.next+1) 0 (i+1) (i+1) true]) W rfl rfl rfl ?_;simp only[GQ,I,Ac];rw[Ch];have hE:Ext h h2->Ext h0 h2:=fun x=>P.ext.trans x
   have x2:Ext h0 h2:=by
    refine(P.ext.trans e1).then c2 fun j hj L=>?_
    have:=(P.new.2.1 hj.1);omega
   have x3:Ext h0 (h2.put p (.cells (gL g++[EV.slice (h1.next+1) 0 (i+1) (i+1) true]) 131)):=x2.Ar (.inr P.new.1) (by have:=c2.next;omega) _;have af:=c2.hb y;have ag:HB (h2.put p (.cells (gL g++[EV.slice (h1.next+1) 0 (i+1) (i+1) true]) 131)):=af.put (by have:=c2.next;omega) _;have Bt:∀x o,h.get x=some o->(∀l e sz,o≠.vec l e sz)->x≠p->(h2.put p (.cells (gL g++[EV.slice (h1.next+1) 0 (i+1) (i+1) true]) 131)).get x=some o:=by
    intro x o Y O ah;rw[Af _ (cR ah)];have X:=e1.at P.hb Y;exact c2.at y X (B _ _ X O)
   have aq:h.next<h1.next:=a_
   have P':zZ h0 (h2.put p (.cells (gL g++[EV.slice (h1.next+1) 0 (i+1) (i+1) true]) 131)) p (h1.next+1) (i+1) (fun d=>if d=i then h.next+1 else q d) (fun d=>if d=i then h.next else c d) g (.slice (h1.next+1) 0 (i+1) (i+1) true):=by
    refine⟨Ae _ _ _,?_,?_,?_,?_,⟨P.new.1,fun _=>a_,?_⟩,x3,ag⟩
    ·have:(List.range (i+1)).map (fun d=>EV.ptr (if d=i then h.next+1 else q d) 0)=((List.range i).map fun d=>EV.ptr (q d) 0)++EV.cells (.ptr (h.next+1) 0):=by
      rw[cr,cM];congr 1
      ·refine cY fun d hd=>?_
       rw[aG (by have:=cm.1 hd;omega)]
      ·simp[EV.cells]
     rw[this];refine J.frame fun _=>Af _ ?_
     have:=J.block a_;exact Ba W this (by simp)
    ·intro d hd
     by_cases f:d=i
     ·subst f
      simp only[bK];rw[Af _];exact c2.at y gq (B _ _ gq (by intros;simp))
     ·simp only[f,ak]
      have:=P.que d a_;exact Bt _ _ this (by intros;simp) (Ba this P.G3 (by simp))
    ·intro d hd
     by_cases f:d=i
     ·subst f
      simp only[bK];rw[Af _];exact c2.at y gc (B _ _ gc (by intros;simp))
     ·simp only[f,ak]
      have:=P.chan d a_;exact Bt _ _ this (by intros;simp) (Ba this P.G3 (by simp))
    ·intro d e hd he C
     have lc:=fun d (hd:d<i)=>P.hb _ _ (P.chan d hd)
     by_cases f:d=i<;>by_cases U:e=i
     ·omega
     ·simp only[f,U,bK,ak]at C;have:=lc e a_;omega
     ·simp only[f,U,bK,ak]at C;have:=lc d a_;omega
     ·simp only[f,U,ak]at C;exact P.inj d e a_ a_ C
    ·intro d hd
     by_cases f:d=i
     ·subst f;simp only[bK];omega
     ·simp only[f,ak];exact P.new.2.2 d a_
   exact ih (i+1) _ _ _ _ _ a_ a_ P'
  ·have:i=g.D.toNat:=a_
   subst this;simp only[L,aA,Aa,GP];exact .ret ⟨rfl,P.ext,P.hb,ql,q,c,A,P⟩
theorem A6q {g:Gm}(W:rtB g=true)(hK:1000<K)(hb:HB h):Ok (qz K (gV g) h) fun v h'=>∃p ql q c,v=.tuple [.ptr p 0,I 0]/\Ext h h'/\HB h'/\Fi h' p ql g.D.toNat q c g (fun _=>[])/\h.next<=p/\h.next<=ql/\∀d,d<g.D.toNat->h.next<=q d/\h.next<=c d:=by
 have s:=Jp W;have:=s.d0;have:=s.d1;simp only[qz,gV,Aa];have hg:(h.new (.cells (gL g) 23)).get h.next=some (.cells (gL g) 23):=Ad _ _
 have hn:h.next<(h.new (.cells (gL g) 23)).next:=aN _
 have J:Ext h (h.new (.cells (gL g) 23)):=Av.new _ _;generalize h.new (.cells (gL g) 23)=h1 at hg hn J⊢;simp only[Cz hg rfl,Ak (show(gL g).length=6 from rfl),Aa];refine(uj g h1).Am ?_;rintro _ h2 ⟨rfl,y⟩;rw[W];have j:h2.get h.next=some (.cells (gL g) 23):=by rw[y.get _ hn id];exact hg
 have A:h.next<h2.next:=aM hn y.next
 simp only[Aa,GU,Cz j rfl,Ak (show(gL g).length=6 from rfl)];rw[Ay (l:=gL g++[.Aq]) rfl];simp only[Aa];have L:=(y.hb (J.hb hb));have B:(h2.new (.cells (gL g++[.Aq]) 131)).get h.next=some (.cells (gL g) 23):=by rw[Az _ A];exact j
 have C:(h2.new (.cells (gL g++[.Aq]) 131)).get h2.next=some (.cells (gL g++[.Aq]) 131):=Ad _ _
 have X:Ext h2 (h2.new (.cells (gL g++[.Aq]) 131)):=Av.new _ _;have E:HB (h2.new (.cells (gL g++[.Aq]) 131)):=L.new _;have n3:h2.next<(h2.new (.cells (gL g++[.Aq]) 131)).next:=aN _
 generalize h2.new (.cells (gL g++[.Aq]) 131)=Y at B C X E n3⊢;simp only[Cy B rfl,gL,Aa,I];refine(A27 (K:=K) (p:=h2.next) s h2 A j K 0 0 (fun _=>0) (fun _=>0) .Aq Y a_ a_ ⟨C,.nil _ _ _ _,fun d hd=>absurd hd (cC _),fun d hd=>absurd hd (cC _),fun d e hd=>absurd hd (cC _),⟨aE _,fun x=>absurd x (bT _),fun d hd=>absurd hd (cC _)⟩,X,E⟩).mono ?_;rintro v h' ⟨rfl,x4,O,ql,q,c,sl,P⟩;refine⟨h2.next,ql,q,c,rfl,J.trans (y.trans x4),O,?_⟩;have f:0<g.D.toNat:=a_
 have U:=P.row.slice f;subst U;have t:=J.next
 have t2:=y.next
 exact⟨⟨f,P.G3,P.row.block f,P.que,P.chan,P.inj⟩,a_,by have:=P.new.2.1 f;omega,fun d hd=>by have:=P.new.2.2 d hd;omega⟩
theorem A92 {g:Gm}(f:rtB g=false)(h:Ab):Ok (qz K (gV g) h) fun v h'=>v=.tuple [.Cl,I 20]/\Ext h h':=by
 simp only[qz,gV,Aa];obtain⟨h1,j,y,hg,_⟩:=nW h (.cells (gL g) 23);rw[j];simp only[Cz hg rfl,Ak (show(gL g).length=6 from rfl),Aa];refine(uj g h1).Am ?_;rintro _ h2 ⟨rfl,A⟩;rw[f];simp only[Aa];exact .ret ⟨rfl,y.trans A⟩
theorem A1n(n a:Int)(h:Ab):sF K (I n) (I a) h=some (.bool (wi n 1 a),h):=by
 simp only[sF,I,Ac,Aa];by_cases h1:1<=n
 ·simp only[h1,aC,Aa,Ac,xK,wi,bF]
 ·simp only[h1,aA,Aa,Ac,xK,wi,bB]
def Vq(size:Int):D5:=.cells [.Aq,I size,I 0,I 0,.bool false] 146
theorem A5y {size:Int}(h1:1<=size)(h2:size<=64)(h:Ab):Na K (I size) h=some (.tuple [.ptr h.next 0,I 0],h.new (Vq size)):=by
 have a:¬size<1:=a_
 have b:¬64<size:=a_
 simp only[Na,I,Ac,Aa,a,b,aA,Va,U9];rw[Ay (l:=[.Aq,I size,I 0,I 0,.bool false]) rfl];simp only[Aa];rfl
structure Zn where
 l:List (List EV)
 safe:Nat
 st:Nat
 fin:Bool
def Zn.empty:Zn:=⟨[],0,0,false⟩
structure Fj(h:Ab)(z q:Nat)(size:Int)(Z:Zn):Prop where
 Ai:∃s,h.get z=some (.cells [s,I size,I Z.safe,I Z.st,.bool Z.fin] 146)/\Ce h s q 29 64 Z.l.length Z.l.flatten
 wf:∀x∈Z.l,x.length=64
structure Mf(h:Ab)(V zl n:Nat)(z q:Nat->Nat)(size op cnt:Int)(down:Bool)(Zs:Nat->Zn):Prop where
 pos:0<n
 dev:h.get V=some (.cells [.slice zl 0 n n true,I size,I op,I cnt,.bool down] 104)
 row:h.get zl=some (.vec ((List.range n).map fun i=>.ptr (z i) 0) 101 1)
 Ai:∀i,i<n->Fj h (z i) (q i) size (Zs i)
 A7f:∀i j,i<n->j<n->z i=z j->i=j
 A98:∀i j,i<n->j<n->(Zs i).l≠[]->(Zs j).l≠[]->q i=q j->i=j
structure wj(h0 h:Ab)(V zl i:Nat)(z:Nat->Nat)(size op:Int)(s:EV):Prop where
 dev:h.get V=some (.cells [s,I size,I op,I 0,.bool false] 104)
 row:Ce h s zl 101 1 i ((List.range i).map fun d=>.ptr (z d) 0)
 Ai:∀d,d<i->h.get (z d)=some (Vq size)
 A7f:∀d e,d<i->e<i->z d=z e->d=e
 new:h0.next<=V/\(0<i->h0.next<=zl)/\∀d,d<i->h0.next<=z d
 ext:Ext h0 h
 hb:HB h
theorem A28 {size:Int}(hn:n<=512)(s0:1<=size)(s1:size<=64)(h0:Ab):∀(m i:Nat) (zl:Nat) (z:Nat->Nat) (E:EV) (h:Ab),n-i<m->i<=n->wj h0 h V zl i z size op E ->
 Ok (sG K m (I size) (.ptr V 0) (I n) (I i) h) fun v h'=>v=.tuple [.ptr V 0,I 0]/\∃zl z E,wj h0 h' V zl n z size op E:=by
 intro m;induction m with
 | zero=>intro i _ _ _ _ hm;omega
 | succ m ih=>
  intro i zl z E h hm hi P;simp only[sG,I,Ac,Aa];by_cases J:(i:Int)<n
  ·simp only[J,aC,Aa,GI]
   have hq:=A5y (K:=K) s0 s1 h;simp only[I]at hq;simp only[hq,Aa,Ac,aB,aA,GH];have e1:Ext h (h.new (Vq size)):=Av.new _ _;have y:HB (h.new (Vq size)):=P.hb.new _;have gz:(h.new (Vq size)).get h.next=some (Vq size):=Ad _ _
   have n1:(h.new (Vq size)).next=h.next+1:=rfl
   generalize h.new (Vq size)=h1 at e1 y gz n1⊢;have gp:h1.get V=some (.cells [E,I size,I op,I 0,.bool false] 104):=e1.at P.hb P.dev;have B:Ce h1 E zl 101 1 i ((List.range i).map fun d=>.ptr (z d) 0):=P.row.frame fun hl=>e1.get _ (P.hb _ _ (P.row.block hl)) id
   have lp:=P.hb _ _ P.dev;rw[Cy gp rfl];simp only[Aa];refine Ml (z:=[.Cl]) B y rfl rfl rfl a_ a_ ?_;intro h2 C n2 c2;have n0:=P.ext.next
   have U:∀x o,h1.get x=some o->(∀l e sz,o≠.vec l e sz)->¬(0<i/\x=zl):=by
    rintro x o hx L ⟨hl,rfl⟩;rw[B.block hl]at hx;cases hx;exact L _ _ _ rfl
   have W:=c2.at y gp (U _ _ gp (by intros;simp));refine Ok.hM W rfl rfl (by show 0<5;decide) ?_;simp only[GG,I,Ac,List.set];rw[Ch];have x2:Ext h0 h2:=by
    refine(P.ext.trans e1).then c2 fun j hj J=>?_
    have:=(P.new.2.1 hj.1);omega
   have ad:=c2.hb y;have X:V<h2.next:=by have:=c2.next;omega
   have x3:=x2.Ar (.inr P.new.1) X (.cells [EV.slice (h1.next+1) 0 (i+1) (i+1) true,I size,I op,I 0,.bool false] 104);have ae:=ad.put X (.cells [EV.slice (h1.next+1) 0 (i+1) (i+1) true,I size,I op,I 0,.bool false] 104);have Bt:∀x o,h1.get x=some o->(∀l e sz,o≠.vec l e sz)->x≠V->(h2.put V (.cells [EV.slice (h1.next+1) 0 (i+1) (i+1) true,I size,I op,I 0,.bool false] 104)).get x=some o:=by
    intro x o Y L af;rw[Af _ (cR af)];exact c2.at y Y (U _ _ Y L)
   have P':wj h0 (h2.put V (.cells [EV.slice (h1.next+1) 0 (i+1) (i+1) true,I size,I op,I 0,.bool false] 104)) V (h1.next+1) (i+1) (fun d=>if d=i then h.next else z d) size op (.slice (h1.next+1) 0 (i+1) (i+1) true):=by
    refine⟨Ae _ _ _,?_,?_,?_,⟨P.new.1,fun _=>a_,?_⟩,x3,ae⟩
    ·have:(List.range (i+1)).map (fun d=>EV.ptr (if d=i then h.next else z d) 0)=((List.range i).map fun d=>EV.ptr (z d) 0)++EV.cells (.ptr h.next 0):=by
      rw[cr,cM];congr 1
      ·refine cY fun d hd=>?_
       rw[aG (by have:=cm.1 hd;omega)]
      ·simp[EV.cells]
     rw[this];refine C.frame fun _=>Af _ ?_
     have:=C.block a_;exact Ba W this (by simp)
    ·intro d hd
     by_cases f:d=i
     ·subst f
      simp only[bK];exact Bt _ _ gz (by intros;simp[Vq]) (Ba gz gp (by simp[Vq]))
     ·simp only[f,ak]
      have:=e1.at P.hb (P.Ai d a_);exact Bt _ _ this (by intros;simp[Vq]) (Ba this gp (by simp[Vq]))
    ·intro d e hd he A
     have lc:=fun d (hd:d<i)=>P.hb _ _ (P.Ai d hd)
     by_cases f:d=i<;>by_cases O:e=i
     ·omega
     ·simp only[f,O,bK,ak]at A;have:=lc e a_;omega
     ·simp only[f,O,bK,ak]at A;have:=lc d a_;omega
     ·simp only[f,O,ak]at A;exact P.A7f d e a_ a_ A
    ·intro d hd
     by_cases f:d=i
     ·subst f;simp only[bK];omega
     ·simp only[f,ak];exact P.new.2.2 d a_
   exact ih (i+1) _ _ _ _ a_ a_ P'
  ·have:i=n:=a_
   subst this;simp only[J,aA,Aa,GF];exact .ret ⟨rfl,zl,z,E,P⟩
def tK(jC size op:Int):Bool:=wi jC 1 512&&wi op 1 64&&wi size 1 64
theorem A5u {jC size:Int}(A:tK jC size op=true)(hK:1000<K)(hb:HB h):Ok (uE K (I jC) (I size) (I op) h) fun v h'=>∃V zl z,v=.tuple [.ptr V 0,I 0]/\Ext h h'/\HB h'/\Mf h' V zl jC.toNat z (fun _=>0) size op 0 false (fun _=>Zn.empty)/\h.next<=V/\h.next<=zl/\∀d,d<jC.toNat->h.next<=z d:=by
 simp only[tK,aV]at A;obtain⟨⟨B,C⟩,E⟩:=A;obtain⟨O,U⟩:=Fk.1 B;obtain⟨c0,c1⟩:=Fk.1 E;have w:=fun n a=>A1n (K:=K) n a h
 simp only[I]at w;simp only[uE,I,w,B,C,Aa,Ac,GK,GJ];rw[Ay (l:=[.Aq,I size,I op,I 0,.bool false]) rfl];simp only[Aa];have P:wj h (h.new (.cells [.Aq,I size,I op,I 0,.bool false] 104)) h.next 0 0 (fun _=>0) size op .Aq:=
  ⟨Ad _ _,.nil _ _ _ _,fun d hd=>absurd hd (cC _),fun d e hd=>absurd hd (cC _),⟨aE _,fun x=>absurd x (bT _),fun d hd=>absurd hd (cC _)⟩,Av.new _ _,hb.new _⟩
 have:=A28 (K:=K) (n:=jC.toNat) a_ c0 c1 h K 0 0 (fun _=>0) .Aq _ a_ a_ P;rw[gG a_]at this;refine this.mono ?_;rintro v h' ⟨rfl,zl,z,W,P⟩;have f:0<jC.toNat:=a_
 have y:=P.row.slice f;subst y;exact⟨h.next,zl,z,rfl,P.ext,P.hb,⟨f,P.dev,P.row.block f,fun i J=>⟨⟨_,P.Ai i J,.nil _ _ _ _⟩,fun x L=>by cases L⟩,P.A7f,fun i j _ _ a=>absurd rfl a⟩,aE _,P.new.2.1 f,P.new.2.2⟩
structure oO(h:Ab)(D V M zl n:Nat)(z q:Nat->Nat)(size op cnt:Int)(down:Bool)(Kb happened:EV)(marks:List (EV × EV))(Zs:Nat->Zn):Prop where
 D8:h.get D=some (.cells [.ptr V 0,Kb,happened,.map M] 100)
 marks:h.get M=some (.map marks)
 dev:Mf h V zl n z q size op cnt down Zs
theorem Mf.ext{z q:Nat->Nat}{size:Int}{Zs:Nat->Zn}(d:Mf h V zl n z q size op cnt down Zs)(g:∀i o,h.get i=some o->h'.get i=some o):Mf h' V zl n z q size op cnt down Zs:=by
 refine⟨d.pos,g _ _ d.dev,g _ _ d.row,fun i f=>?_,d.A7f,d.A98⟩;obtain⟨s,a,b⟩:=(d.Ai i f).Ai;exact⟨⟨s,g _ _ a,b.frame fun j=>by rw[g _ _ (b.block j),b.block j]⟩,(d.Ai i f).wf⟩
theorem Fi.ext{p:Nat}{q c:Nat->Nat}{g:Gm}(d:Fi h p ql n q c g ps)(e:∀i o,h.get i=some o->h'.get i=some o):Fi h' p ql n q c g ps:=
 ⟨d.pos,e _ _ d.G3,e _ _ d.row,fun i f=>e _ _ (d.que i f),fun i f=>e _ _ (d.chan i f),d.inj⟩
theorem oO.ext{D M:Nat}{z q:Nat->Nat}{size:Int}{Zs:Nat->Zn}(d:oO h D V M zl n z q size op cnt down Kb happened marks Zs)(e:∀i o,h.get i=some o->h'.get i=some o):
 oO h' D V M zl n z q size op cnt down Kb happened marks Zs:=⟨e _ _ d.D8,e _ _ d.marks,d.dev.ext e⟩
theorem A6z {jC size:Int}(A:tK jC size op=true)(hK:1000<K)(hb:HB h):Ok (sH K (I jC) (I size) (I op) h) fun v h'=>∃D V M zl z,v=.tuple [.ptr D 0,I 0]/\Ext h h'/\HB h'/\oO h' D V M zl jC.toNat z (fun _=>0) size op 0 false .Aq .Aq [] (fun _=>Zn.empty)/\(h.next<=D/\h.next<=M)/\h.next<=V/\h.next<=zl/\∀d,d<jC.toNat->h.next<=z d:=by
 simp only[sH,dr];refine(A5u (K:=K) A hK hb).Am ?_;rintro _ h1 ⟨V,zl,z,rfl,j,f,d1,nw⟩;simp only[Aa,Ac,I,aB,aA,GO];rw[show uF h1=some (.map h1.next,h1.new (.map []))from rfl,Au,Ay (l:=[.ptr V 0,.Aq,.Aq,.map h1.next]) rfl];simp only[Aa];have y:Ext h1 ((h1.new (.map [])).new (.cells [.ptr V 0,.Aq,.Aq,.map h1.next] 100)):=(Av.new _ _).Db _;refine .ret ⟨(h1.new (.map [])).next,V,h1.next,zl,z,rfl,j.trans y,(f.new _).new _,⟨Ad _ _,?_,d1.ext fun i o g=>y.at f g⟩,⟨by have:=j.next;show h.next<=h1.next+1;omega,j.next⟩,nw⟩;rw[Az _ (aN _)];exact Ad _ _
section
def k_(ps:Nat->List Int)(n:Nat)(d:Int):Nat:=if 0<=d/\d<n then(ps d.toNat).length else 0
theorem V_{q c:Nat}{buf:List EV}(hq:h.get q=some (.cells [.chan c] 169))(hc:h.get c=some (.chan cap buf)):Fo K (.ptr q 0) h=some (I buf.length,h):=by
 simp only[Fo,Aa,Cy hq rfl];have:uD (.chan c) h=some (I buf.length,h):=by
  show(match h.get c with|some (.chan _ buf)=>some (EV.int .i64 (.ofNat (len buf)),h)|_=>none)=_;rw[hc];simp only;rw[Wg];rfl
 rw[this];rfl
section
variable{p:Nat}{q c:Nat->Nat}{g:Gm}(P:Fi h p ql n q c g ps)
include P
theorem Fi.rowAt:Ce h (.slice ql 0 n n true) ql 133 1 n ((List.range n).map fun d=>.ptr (q d) 0):=.inr ⟨P.pos,rfl,P.row,by simp⟩
theorem Fi.list(k:EV->R):Iy (.ptr p 6) h k=k (.slice ql 0 n n true):=by rw[Cy P.G3 rfl];rfl
theorem Fi.pU(k:EV->R):Tt 6 (.ptr p 0) h k=k (gV g):=by rw[Cz P.G3 rfl];rfl
theorem Fi.oP {d:Nat}(hd:d<n)(k:EV->R):Iy (.ptr ql (d*1)) h k=k (.ptr (q d) 0):=by
 rw[Cy P.row rfl,bc,bH,cX hd];rfl
theorem Fi.len {d:Nat}(hd:d<n):Fo K (.ptr (q d) 0) h=some (I (ps d).length,h):=by
 rw[V_ (P.que d hd) (P.chan d hd),bk]
theorem A3l(d:Int):Vp K (.ptr p 0) (I d) h=some (I (k_ ps n d:Nat),h):=by
 unfold k_;simp only[Vp,I,Ac,Aa];by_cases h1:d<0
 ·simp only[h1,aC,Aa,Ac,V8]
  rw[aG a_];rfl
 ·simp only[h1,aA,Aa,Ac,P.list,V8]
  by_cases h2:(n:Int)<=d
  ·simp only[h2,aC,Aa]
   rw[aG a_];rfl
  ·simp only[h2,aA,Aa,GB,P.list]
   have hd:d.toNat<n:=a_
   have e:d=(d.toNat:Int):=a_
   rw[e,P.rowAt.ix hd];simp only[Aa,P.oP hd];rw[P.len hd,Au,aI a_];rfl
end
def tL(ps:Nat->List Int)(Pu:Int)(b:Int)(d:Nat):Int:=if ¬(d:Int)=Pu/\(b<0\/(ps b.toNat).length<(ps d).length)then d else b
def Ek(ps:Nat->List Int)(Pu:Int)(n:Nat):Int:=(List.range n).foldl (tL ps Pu) (-1)
theorem z7(ps:Nat->List Int)(Pu:Int)(n:Nat):Ek ps Pu (n+1)=tL ps Pu (Ek ps Pu n) n:=by unfold Ek;rw[cr,List.foldl_append];rfl
theorem zr(ps:Nat->List Int)(Pu:Int):∀n,-1<=Ek ps Pu n/\Ek ps Pu n<(n:Int)/\(Ek ps Pu n = -1\/0<=Ek ps Pu n)
 | 0=>by unfold Ek;simp
 | n+1=>by
  obtain⟨a,b,c⟩:=zr ps Pu n;rw[z7];unfold tL;split<;>omega
def z9(n:Nat)(ps:Nat->List Int):Prop:=n<=64/\∀d,d<n->(ps d).length<=4096
theorem A51 {p:Nat}{q c:Nat->Nat}{g:Gm}(Pu:Int)(hn:n<=64):∀(m i:Nat) (h:Ab),n-i<m->i<=n->HB h->Fi h p ql n q c g ps ->
 Ok (Hw K m (.ptr p 0) (I Pu) (I (Ek ps Pu i)) (.slice ql 0 n n true) (I n) (I i) h) fun v h'=>v=I (Ek ps Pu n)/\Ext h h':=by
 intro m;induction m with
 | zero=>intro i h hm;omega
 | succ m W=>
  intro i h hm X hb P;simp only[Hw,I,Ac,Aa];by_cases B:(i:Int)<n
  ·have y:i<n:=a_
   simp only[B,aC,Aa,GD];rw[P.rowAt.ix y,P.oP y];obtain⟨b0,b1,b2⟩:=zr ps Pu i;have next:∀(b:Int) (h1:Ab),b=Ek ps Pu (i+1)->Ext h h1->Ok (Of K (Hw K m) (.ptr p 0) (.int .i64 Pu) (.int .i64 b) (.slice ql 0 n n true) (.int .i64 (n:Int)) (.int .i64 (i:Int)) h1) fun v h'=>v=I (Ek ps Pu n)/\Ext h h':=by
    rintro _ h1 rfl E;simp only[Of,Ac];rw[Ch];exact(W (i+1) h1 a_ a_ (E.hb hb) (P.ext fun i o g=>E.at hb g)).mono fun v h' a=>⟨a.1,E.trans a.2⟩
   rw[z7]at next
   unfold tL at next
   simp only[Aa,Ac];by_cases f:(i:Int)=Pu
   ·simp only[f,aB,aA,Aa,Ac,Nq,Hr,Hx]
    rw[aG (fun x=>x.1 f)]at next
    rw[f]at next
    exact next _ h rfl (Av.refl _)
   ·simp only[f,aQ,aC,Aa,Ac,Nq]
    by_cases j:Ek ps Pu i<0
    ·simp only[j,aC,Aa,Ac,Hr,Hx]
     rw[aI ⟨f,.inl j⟩]at next
     exact next _ h rfl (Av.refl _)
    ·simp only[j,aA,Aa,Ac]
     refine Ok.bE (P:=fun v h2=>v=I (ps i).length/\Ext h.lift h2) ⟨_,_,(P.ext (h':=h.lift) fun i o g=>by rw[Bx];exact g).len y,rfl,Av.refl _⟩ (fun _ _ p=>p.2) ?_;rintro _ h2 J ⟨rfl,_⟩ _ L;have C:Fi J p ql n q c g ps:=P.ext fun i o g=>L.at hb g
     have hp:p<h.next:=hb _ _ P.G3
     have hq:ql<h.next:=hb _ _ P.row
     have A:(Ek ps Pu i).toNat<n:=a_
     simp only[Aa,As,Cq hp,C.list];rw[show Ek ps Pu i=((Ek ps Pu i).toNat:Int) from a_,C.rowAt.ix A];simp only[Aa,As,Cq hq,C.oP A];refine Ok.bE (P:=fun v h2=>v=I (ps (Ek ps Pu i).toNat).length/\Ext J.lift h2) ⟨_,_,(C.ext (h':=J.lift) fun i o g=>by rw[Bx];exact g).len A,rfl,Av.refl _⟩ (fun _ _ p=>p.2) ?_;rintro _ h4 O ⟨rfl,_⟩ _ U;rw[show((Ek ps Pu i).toNat:Int)=Ek ps Pu i from a_];simp only[Ac,I];by_cases hc:((ps (Ek ps Pu i).toNat).length:Int)<(ps i).length
     ·simp only[hc,aC,Hr,Hx,Aa,Ac]
      rw[aI ⟨f,.inr a_⟩]at next
      exact next _ O rfl (L.trans U)
     ·simp only[hc,aA,Hr,Hx,Aa,Ac]
      rw[aG (fun x=>by rcases x.2 with a|a<;>omega)]at next
      exact next _ O rfl (L.trans U)
  ·have:i=n:=a_
   subst this;simp only[B,aA,Aa,GC];exact .ret ⟨rfl,Av.refl _⟩
theorem z'{p:Nat}{q c:Nat->Nat}{g:Gm}(P:Fi h p ql n q c g ps)(hb:HB h)(hn:n<=64)(hK:1000<K)(Pu:Int):
 Ok (Kw K (.ptr p 0) (I Pu) h) fun v h'=>v=I (Ek ps Pu n)/\Ext h h':=by
 simp only[Kw,Aa,P.list];exact A51 Pu hn K 0 h a_ a_ hb P
def Oo(ps:Nat->List Int)(n:Nat):Nat:=((List.range n).map fun d=>(ps d).length).sum
theorem Jv(ps:Nat->List Int)(n:Nat):Oo ps (n+1)=Oo ps n+(ps n).length:=by unfold Oo;rw[cr,cM,List.sum_append];simp
def F2(ps:Nat->List Int)(n:Nat):Int:=min ((Oo ps n:Int)/2) (Oo ps n-k_ ps n (Ek ps (-1) n))
theorem Bcy {p:Nat}{q c:Nat->Nat}{g:Gm}(hs:z9 n ps)(hb:HB h)(P:Fi h p ql n q c g ps)(hK:1000<K):∀(m i:Nat),n-i<m->i<=n->Oo ps i<=4096*i ->
 Ok (Ma K m (.ptr p 0) (I (Oo ps i)) (.slice ql 0 n n true) (I n) (I i) h) fun v h'=>v=I (F2 ps n)/\Ext h h':=by
 obtain⟨hn,y⟩:=hs;intro m;induction m with
 | zero=>intro i hm;omega
 | succ m C=>
  intro i hm E A;simp only[Ma,I,Ac,Aa];by_cases j:(i:Int)<n
  ·have f:i<n:=a_
   have:=y i f;simp only[j,aC,Aa,GN];rw[P.rowAt.ix f,P.oP f,P.len f,Au];simp only[I,Ac,GM];rw[Ch,Ch];have e:((Oo ps i:Int)+(ps i).length)=(Oo ps (i+1):Nat):=by rw[Jv];omega
   rw[e];exact C (i+1) a_ a_ (by rw[Jv];omega)
  ·have:i=n:=a_
   subst this;simp only[j,aA,Aa,GL];rw[sB a_ a_ a_];refine(z' P hb hn hK (-1)).Am ?_;rintro _ h1 ⟨rfl,B⟩;rw[A3l (P.ext fun i o g=>B.at hb g),Au];simp only[I,Ac];have hle:k_ ps i (Ek ps (-1) i)<=4096:=by
    unfold k_;split
    ·exact y _ a_
    ·omega
   rw[Ch,min2,Au];exact .ret ⟨rfl,B⟩
theorem EE{p:Nat}{q c:Nat->Nat}{g:Gm}(P:Fi h p ql n q c g ps)(hb:HB h)(hs:z9 n ps)(hK:1000<K:=by omega):
 Ok (Iz K (.ptr p 0) h) fun v h'=>v=I (F2 ps n)/\Ext h h':=by
 simp only[Iz,Aa,P.list];exact Bcy hs hb P hK K 0 (by obtain⟨a,_⟩:=hs;omega) a_ (by unfold Oo;simp)
end
section
def Abh(D:Nat)(g:Gm)(p bl n:Nat)(a b u:Int):List EV:=[.ptr D 0]++gL g++Bf++[.ptr p 0,.slice bl 0 n n false,I a,I b,I u]
theorem Qe:Bf.length=256:=by kernel_rfl
section
variable (D:Nat)(g:Gm)(p bl n:Nat)(a b u:Int)
theorem z_:(Abh D g p bl n a b u).length=268:=by unfold Abh;simp[Qe,gL]
theorem Bbv:(Abh D g p bl n a b u)[0]? = some (.ptr D 0):=rfl
theorem Bhw:Ou (Abh D g p bl n a b u) 1 6=some (gL g):=by kernel_rfl
theorem Bco:Ou (Abh D g p bl n a b u) 7 256=some Bf:=by kernel_rfl
theorem Bi3:(Abh D g p bl n a b u)[263]? = some (.ptr p 0):=by kernel_rfl
theorem Blc:(Abh D g p bl n a b u)[264]? = some (.slice bl 0 n n false):=by kernel_rfl
theorem Brq:(Abh D g p bl n a b u)[265]? = some (I a):=by kernel_rfl
theorem Bsa:(Abh D g p bl n a b u)[266]? = some (I b):=by kernel_rfl
theorem Bsd:(Abh D g p bl n a b u)[267]? = some (I u):=by kernel_rfl
end
theorem Rg{l:List EV}(hg:h.get i=some (.cells l t))(hs:TT.size t=some n)(f:TT.agg t=some true)(j:l.length=n):J5 TT [.c (.ptr i 0) t] h=some (.agg l,h):=by
 have y:Jo h i 0 n=some l:=by
  unfold Jo;rw[hg];simp only;rw[<-nX];exact Ak j
 unfold J5;simp only[kB,hs,y,f]
structure Acs(h:Ab)(m D p bl n:Nat)(g:Gm)(a b u:Int)(bad:Nat->Int):Prop where
 H5:h.get m=some (.cells (Abh D g p bl n a b u) 96)
 Az3:h.get bl=some (.cells ((List.range n).map fun z=>I (bad z)) 3)
section
variable{m D p bl:Nat}{g:Gm}{b u:Int}{bad:Nat->Int}(M:Acs h m D p bl n g a b u bad)
include M
theorem Acs.D8(k:EV->R):Iy (.ptr m 0) h k=k (.ptr D 0):=by rw[Cy M.H5 rfl,Bbv];rfl
theorem Acs.pU(k:EV->R):Tt 6 (.ptr m 1) h k=k (gV g):=by rw[Cz M.H5 rfl,Bhw];rfl
theorem Acs.table(k:EV->R):Tt 256 (.ptr m 7) h k=k Us:=by rw[Cz M.H5 rfl,Bco];rfl
theorem Acs.G3(k:EV->R):Iy (.ptr m 263) h k=k (.ptr p 0):=by rw[Cy M.H5 rfl,Bi3];rfl
theorem Acs.WB(k:EV->R):Iy (.ptr m 264) h k=k (.slice bl 0 n n false):=by rw[Cy M.H5 rfl,Blc];rfl
theorem Acs.oa(k:EV->R):Iy (.ptr m 265) h k=k (I a):=by rw[Cy M.H5 rfl,Brq];rfl
theorem Acs.ob(k:EV->R):Iy (.ptr m 266) h k=k (I b):=by rw[Cy M.H5 rfl,Bsa];rfl
theorem Acs.ou(k:EV->R):Iy (.ptr m 267) h k=k (I u):=by rw[Cy M.H5 rfl,Bsd];rfl
theorem Acs.ext(e:∀i o,h.get i=some o->h'.get i=some o):Acs h' m D p bl n g a b u bad:=⟨e _ _ M.H5,e _ _ M.Az3⟩
omit M in
theorem tZ:TT.size 23=some 6/\TT.agg 23=some true:=⟨by kernel_rfl,by kernel_rfl⟩
omit M in
theorem WC:TT.size 68=some 256/\TT.agg 68=some true:=⟨by kernel_rfl,by kernel_rfl⟩
end
section
variable{D M:Nat}{z q:Nat->Nat}{size:Int}{Zs:Nat->Zn}
theorem WD(d:oO h D V M zl n z q size op cnt down Kb happened marks Zs):Cw K (.ptr D 0) h=some (.ptr V 0,h):=by simp only[Cw,Aa,Cy d.D8 rfl]
theorem WE(d:Mf h V zl n z q size op cnt down Zs):Oc K (.ptr V 0) h=some (I n,h):=by simp only[Oc,Aa,Cy d.dev rfl,I]
theorem WG(d:Mf h V zl n z q size op cnt down Zs):Pf K (.ptr V 0) h=some (I size,h):=by simp only[Pf,Aa,Cy d.dev rfl]
end
theorem xC(v:EV):∀n,rep [v] n=List.replicate n v
 | 0=>rfl
 | n+1=>by show[v]++rep [v] n=_;rw[xC v n];rfl
theorem FI(v:EV)(n:Nat):(List.range n).map (fun _=>v)=List.replicate n v:=by
 rw[List.map_const',fW]
theorem A26 {g:Gm}(hK:1000<K)(hb:HB h){D M:Nat}{z q:Nat->Nat}{size:Int}{Zs:Nat->Zn}(dr:oO h D V M zl n z q size op cnt down Kb happened marks Zs):
 Ok (sJ K (.ptr D 0) (gV g) Us h) fun v h'=>Ext h h'/\HB h'/\if rtB g=true/\g.D*g.Z=n/\g.S=size then
  ∃m p bl ql q c,v=.tuple [.ptr m 0,I 0]/\Acs h' m D p bl n g (-1) (-1) 0 (fun _=>0)/\Fi h' p ql g.D.toNat q c g (fun _=>[])/\(h.next<=m/\h.next<=bl)/\h.next<=p/\h.next<=ql/\∀d,d<g.D.toNat->h.next<=q d/\h.next<=c d else v=.tuple [.Cl,I 20]:=by
 have al:Ta 68 Us (h.new (.cells (gL g) 23))=fun(k:EV->Ab->R)=>k (.ptr (h.next+1) 0) ((h.new (.cells (gL g) 23)).new (.cells Bf 68)):=rfl
 simp only[sJ,gV,Aa,al];have g4:((h.new (.cells (gL g) 23)).new (.cells Bf 68)).get h.next=some (.cells (gL g) 23):=by rw[Az _ (aN _)];exact Ad _ _
 have g5:((h.new (.cells (gL g) 23)).new (.cells Bf 68)).get (h.next+1)=some (.cells Bf 68):=Ad _ _;have J:Ext h ((h.new (.cells (gL g) 23)).new (.cells Bf 68)):=(Av.new _ _).Db _;have n1:((h.new (.cells (gL g) 23)).new (.cells Bf 68)).next=h.next+2:=rfl
 generalize (h.new (.cells (gL g) 23)).new (.cells Bf 68)=h1 at g4 g5 J n1⊢;have E:=J.hb hb;simp only[Cz g4 rfl,Ak (show(gL g).length=6 from rfl),Aa];cases hr:rtB g with
 | false=>
  refine(A92 hr h1).Am ?_;rintro _ h2 ⟨rfl,C⟩;simp only[Aa,I,Ac,show ¬((20:Int)=0) from c_,aQ,aC,uG,Q8];exact .ret ⟨J.trans C,C.hb E,rfl⟩
 | true=>
  have s:=Jp hr;have:=s.d0;have:=s.d1;have:=s.z0;have:=s.z1;obtain⟨m0,m1⟩:=Rl (a:=g.D) (b:=g.Z) (A:=8) (B:=64);refine(A6q hr hK E).Am ?_;rintro _ h2 ⟨p,ql,qq,c,rfl,C,j,P,nw⟩;have k2:∀i o,h.get i=some o->h2.get i=some o:=fun i o g=>C.at E (J.at hb g)
  have l4:h.next<h2.next:=by have:=C.next;omega
  have l5:h.next+1<h2.next:=by have:=C.next;omega
  have X:=C.at E g4;have aw:=C.at E g5;simp only[Aa,I,Ac,aB,aA];refine Ok.bE (P:=fun v h3=>v=.ptr V 0/\Ext h2.lift h3) ⟨_,_,WD ((dr.ext k2).ext fun i o g=>by rw[Bx];exact g),rfl,Av.refl _⟩ (fun _ _ p=>p.2) ?_;rintro _ _ h3 ⟨rfl,_⟩ _ x3;have Y:=x3.hb j;have k3:∀i o,h.get i=some o->h3.get i=some o:=fun i o g=>x3.at j (k2 i o g)
  refine Ok.bE (P:=fun v h4=>v=I n/\Ext h3.lift h4) ⟨_,_,WE ((dr.dev.ext k3).ext fun i o g=>by rw[Bx];exact g),rfl,Av.refl _⟩ (fun _ _ p=>p.2) ?_;rintro _ _ h4 ⟨rfl,_⟩ _ x4;have aa:=x4.hb Y;have k4:∀i o,h.get i=some o->h4.get i=some o:=fun i o g=>x4.at Y (k3 i o g)
  have ab:Ext h2 h4:=x3.trans x4;have az:=ab.at j X;simp only[Aa,As,Cq l4,Cz az rfl,Ak (show(gL g).length=6 from rfl)];refine Ok.bE (P:=fun v W=>v=I (g.D*g.Z)/\Ext h4.lift W) ⟨_,_,N8 s _,rfl,Av.new _ _⟩ (fun _ _ p=>p.2) ?_;rintro _ _ W ⟨rfl,_⟩ _ x5;have ad:=x5.hb aa;have k5:∀i o,h.get i=some o->W.get i=some o:=fun i o g=>x5.at aa (k4 i o g)
  simp only[I,Ac,uG];have ae:Ext h2 W:=ab.trans x5;by_cases hn:(n:Int)=g.D*g.Z
  ·simp only[hn,aB,aA,Aa,Ac]
   refine Ok.bE (P:=fun v h6=>v=.ptr V 0/\Ext W.lift h6) ⟨_,_,WD ((dr.ext k5).ext fun i o g=>by rw[Bx];exact g),rfl,Av.refl _⟩ (fun _ _ p=>p.2) ?_;rintro _ _ h6 ⟨rfl,_⟩ _ x6;have a2:=x6.hb ad;have k6:∀i o,h.get i=some o->h6.get i=some o:=fun i o g=>x6.at ad (k5 i o g)
   refine Ok.bE (P:=fun v O=>v=I size/\Ext h6.lift O) ⟨_,_,WG ((dr.dev.ext k6).ext fun i o g=>by rw[Bx];exact g),rfl,Av.refl _⟩ (fun _ _ p=>p.2) ?_;rintro _ _ O ⟨rfl,_⟩ _ x7;have a3:=x7.hb a2;have y:Ext h2 O:=ae.trans (x6.trans x7);have af:=y.at j X;simp only[Aa,As,Cq l4,Cy af rfl,gL,I,Ac];by_cases hs:size=g.S
   ·subst hs
    simp only[aB,aA,Q8,GV,Aa];have a4:=y.at j aw;have a5:h.next<O.next:=aM l4 y.next
    have a6:h.next+1<O.next:=aM l5 y.next
    simp only[Aa,As,Cq a5,Cq a6,Cz af rfl,Cz a4 rfl,Ak (show(gL g).length=6 from rfl),Ak Qe];refine Ok.bE (P:=fun v f=>v=I (g.D*g.Z)/\Ext O.lift f) ⟨_,_,N8 s _,rfl,Av.new _ _⟩ (fun _ _ p=>p.2) ?_;rintro _ _ f ⟨rfl,_⟩ _ x8;have bx:=x8.hb a3;have U:Ext h2 f:=y.trans x8;simp only[Aa,As,I];rw[<-hn];have a7:Wa [.int .i64 0] 3 (.int .i64 (n:Int)) (.int .i64 (n:Int)) f=some (.slice f.next 0 n n false,f.new (.cells (rep [.int .i64 0] n) 3)):=by
     show Bc (Nat.ble n n) (Bc (Nat.ble n 65536) _ none) none=_;rw[aR (aE n),Al,aR a_,Al]
    rw[a7,Au,Ay (l:=Abh D g p f.next n (-1) (-1) 0) (by kernel_rfl)];simp only[Aa,As];have ag:Ext f ((f.new (.cells (rep [.int .i64 0] n) 3)).new (.cells (Abh D g p f.next n (-1) (-1) 0) 96)):=(Av.new _ _).Db _;have L:Ext h ((f.new (.cells (rep [.int .i64 0] n) 3)).new (.cells (Abh D g p f.next n (-1) (-1) 0) 96)):=(J.trans C).trans (U.trans ag);refine .ret ⟨L,L.hb hb,?_⟩;rw[aI (by first|exact⟨rfl,hn.symm,rfl⟩|simp[hn]|simp)];refine⟨f.next+1,p,f.next,ql,qq,c,rfl,⟨Ad _ _,?_⟩,P.ext fun i o g=>Ext.at (U.trans ag) j g,?_⟩
    ·rw[Az _ (aN _),Ad,xC,FI]
    ·have t1:=J.next
     have t2:=C.next
     have t3:=U.next
     exact⟨⟨a_,a_⟩,a_,a_,fun d hd=>by have:=nw.2.2 d hd;omega⟩
   ·have ah:¬size=g.S:=hs
    simp only[ah,aQ,aC,Q8,Aa];have L:Ext h O:=(J.trans C).trans y;refine .ret ⟨L,L.hb hb,?_⟩;rw[aG (fun x=>ah x.2.2.symm)]
  ·simp only[hn,aQ,aC,Aa,Ac,Q8]
   have L:Ext h W:=(J.trans C).trans ae;refine .ret ⟨L,L.hb hb,?_⟩;rw[aG (fun x=>hn x.2.1.symm)]
end
section
section
variable{m D p bl:Nat}{g:Gm}{b u:Int}{bad:Nat->Int}(M:Acs h m D p bl n g a b u bad)
include M
theorem Xn:Cs K (.ptr m 0) h=some (.ptr p 0,h):=by simp only[Cs,Aa,M.G3]
theorem Q0:Bn K (.ptr m 0) h=some (.ptr D 0,h):=by simp only[Bn,Aa,M.D8]
theorem A2r:Mp K (.ptr m 0) h=some (.tuple [I a,I b,I u],h):=by simp only[Mp,Aa,M.oa,M.ob,M.ou]
theorem A1t(hb:HB h):Ok (Cn K (.ptr m 0) h) fun v h'=>v=gV g/\Ext h h':=by
 simp only[Cn,Aa];have f:Acs (h.new (.cells [.int .i64 0,.int .i64 0,.int .i64 0,.int .i64 0,.int .i64 0,.int .i64 0] 23)) m D p bl n g a b u bad:=M.ext fun i o g=>Ext.at (Av.new h _) hb g
 rw[f.pU];refine Ok.st (gL g) (Ad _ _) rfl rfl rfl ?_;rw[Rg (Ae _ _ _) tZ.1 tZ.2 rfl];exact .ret ⟨rfl,(Av.new h _:Ext _ _).Ar (.inr (aE _)) (aN _) _⟩
theorem CU(hb:HB h):Ok (Gz K (.ptr m 0) h) fun v h'=>v=Us/\Ext h h':=by
 simp only[Gz,Aa];have f:Acs (h.new (.cells (List.replicate 256 (.int .u32 0)) 68)) m D p bl n g a b u bad:=M.ext fun i o g=>Ext.at (Av.new h _) hb g
 rw[f.table];refine Ok.st Bf (Ad _ _) rfl (by rw[show EV.cells Us=Bf from rfl,Bg,Qe]) (by rw[show EV.cells Us=Bf from rfl];exact Bo (by rw[Qe];simp)) ?_;rw[Rg (Ae _ _ _) WC.1 WC.2 Qe];exact .ret ⟨rfl,(Av.new h _:Ext _ _).Ar (.inr (aE _)) (aN _) _⟩
end
end
section
section
variable{q c:Nat}(hq:h.get q=some (.cells [.chan c] 169))(hc:h.get c=some (.chan cap (xs.map I)))
include hq hc
theorem AA(x:Int)(f:xs.length<cap):Hb K (.ptr q 0) (I x) h=some (I 0,h.put c (.chan cap ((xs++[x]).map I))):=by
 have hs:pr (.chan c) (I x) h=some (.tuple [.int .i64 0,.bool false],h.put c (.chan cap ((xs++[x]).map I))):=by
  unfold pr;simp only[hc,Wg,bk];rw[aR f,Al,cM];rfl
 simp only[Hb,Aa,Cy hq rfl,hs,Ac,aC]
theorem Bsn(x:Int)(f:cap<=xs.length):Hb K (.ptr q 0) (I x) h=some (I 17,h):=by
 have hs:pr (.chan c) (I x) h=some (.tuple [.int .i64 (-1),.bool false],h):=by
  unfold pr;simp only[hc,Wg,bk];rw[show Nat.ble (Nat.succ xs.length) cap=false from by
   cases hb:Nat.ble (Nat.succ xs.length) cap with
   | false=>rfl
   | true=>have:=bG hb;omega,Bk]
 simp only[Hb,Aa,Cy hq rfl,hs,Ac,show ¬((-1:Int)=0) from c_,aA]
theorem take_cons {x:Int}{r:List Int}(f:xs=x::r):Gn K (.ptr q 0) h=some (.tuple [I x,I 0],h.put c (.chan cap (r.map I))):=by
 subst f;have hs:px (.int .i64 0) (.chan c) h=some (.tuple [.int .i64 0,.bool true,I x],h.put c (.chan cap (r.map I))):=by
  unfold px;simp only[hc,dT]
 simp only[Gn,Aa,Cy hq rfl,hs,Ac,aC]
theorem take_nil(f:xs = []):Gn K (.ptr q 0) h=some (.tuple [I 0,I 15],h):=by
 subst f;have hs:px (.int .i64 0) (.chan c) h=some (.tuple [.int .i64 (-1),.bool false,.int .i64 0],h):=by
  unfold px;simp only[hc,List.map_nil]
 simp only[Gn,Aa,Cy hq rfl,hs,Ac,show ¬((-1:Int)=0) from c_,aA]
end
structure Listed(h0 h:Ab)(v:EV)(c cap:Nat)(xs:List Int)(q':Nat):Prop where
 row:Ce h v q' 3 1 xs.length (xs.map I)
 new:0<xs.length->h0.next<=q'
 chan:h.get c=some (.chan cap (xs.map I))
 chg:Av (fun i=>i=c) h0 h
 hb:HB h
theorem Bho{q c:Nat}(A:h0.get q=some (.cells [.chan c] 169))(f:∃b,h0.get c=some (.chan cap b))(O:xs.length<=cap)(U:cap<=4096)(iE:HB h0):∀(m j:Nat) (h:Ab) (s:EV) (q':Nat),xs.length-j<m->j<=xs.length ->
 Ce h s q' 3 1 xs.length (xs.map I)->(0<xs.length->h0.next<=q')->h.get c=some (.chan cap ((xs.take j).map I))->Av (fun i=>i=c) h0 h->HB h ->
 Ok (Iq K m (.ptr q 0) s s (I xs.length) (I j) h) fun v h'=>∃q',Listed h0 h' v c cap xs q':=by
 obtain⟨b0,f⟩:=f;have J:q≠c:=Ba A f (by simp);have lc:=iE _ _ f;intro m;induction m with
 | zero=>intro j h s q' hm;omega
 | succ m W=>
  intro j h s q' hm hj row new hc x hb;simp only[Iq,I,Ac,Aa];by_cases B:(j:Int)<xs.length
  ·have y:j<xs.length:=a_
   have hq:h.get q=some (.cells [.chan c] 169):=Av.at x iE A J;have C:=row.block a_;simp only[B,aC,Aa,KL];rw[row.ix y,Cy C rfl,bc,bH,aD y,eD,Hf,AA hq hc xs[j] (by rw[bW];omega),Au];simp only[KK,Ac];rw[Ch];have e:xs.take j++[xs[j]]=xs.take (j+1):=(br y).symm;rw[e];have E:c<h.next:=aM lc x.next
   have L:q'≠c:=Ba C hc (by simp);exact W (j+1) _ s q' a_ a_ (row.frame fun _=>Af _ (cR L)) new (Ae _ _ _) (x.Ar (.inl rfl) E _) (hb.put E _)
  ·have:j=xs.length:=a_
   subst this;simp only[B,aA,Aa,Uq];rw[bY]at hc;exact .ret ⟨q',row,new,hc,x,hb⟩
theorem Biw{q c:Nat}(B:h0.get q=some (.cells [.chan c] 169))(f:∃b,h0.get c=some (.chan cap b))(C:xs.length<=cap)(U:cap<=4096)(iE:HB h0)(hK:5000<K):∀(m j:Nat) (h:Ab) (s:EV) (q':Nat),xs.length-j<m->j<=xs.length ->
 Ce h s q' 3 1 j ((xs.take j).map I)->(0<j->h0.next<=q')->h.get c=some (.chan cap ((xs.drop j).map I))->Av (fun i=>i=c) h0 h->HB h ->
 Ok (It K m (.ptr q 0) s (I xs.length) (I j) h) fun v h'=>∃q',Listed h0 h' v c cap xs q':=by
 have E:=f;obtain⟨b0,f⟩:=f;have W:q≠c:=Ba B f (by simp);have lc:=iE _ _ f;intro m;induction m with
 | zero=>intro j h s q' hm;omega
 | succ m ih=>
  intro j h s q' hm hj row new hc x hb;simp only[It,I,Ac,Aa];by_cases J:(j:Int)<xs.length
  ·have L:j<xs.length:=a_
   have hq:h.get q=some (.cells [.chan c] 169):=Av.at x iE B W;have e:xs.drop j=xs[j]::xs.drop (j+1):=dH L;have y:c<h.next:=aM lc x.next
   simp only[J,aC,Aa,KN];rw[take_cons hq hc e];simp only[Aa,I,Ac,aC];have O:Ce (h.put c (.chan cap ((xs.drop (j+1)).map I))) s q' 3 1 j ((xs.take j).map I):=row.frame fun X=>Af _ (cR (Ba (row.block X) hc (by simp)))
   refine Ml (z:=[.int .i64 0]) O (hb.put y _) rfl rfl rfl a_ a_ ?_;intro h2 A n2 c2;have Y:Av (fun i=>i=c) h0 (h.put c (.chan cap ((xs.drop (j+1)).map I))):=x.Ar (.inl rfl) y _;have x3:Av (fun i=>i=c) h0 h2:=Y.then c2 fun i hi X=>by have:=new hi.1;omega
   simp only[KM,Ac];rw[Ch];have e2:(xs.take j).map I++EV.cells (.int .i64 xs[j])=(xs.take (j+1)).map I:=by
    rw[br L,cM];rfl
   rw[e2]at A;refine ih (j+1) _ _ _ a_ a_ A (fun _=>by have:=Y.next;omega) ?_ x3 (c2.hb (hb.put y _));rw[c2.get _ (by rw[Ab.Qv];exact y) (fun hx=>by
    have:=row.block hx.1;exact Ba this hc (by simp) hx.2.symm)]
   exact Ae _ _ _
  ·have:j=xs.length:=a_
   subst this;rw[bY]at row;simp only[J,aA,Aa,Ux];rw[row.Ip];rw[List.drop_length]at hc;exact Bho B E C U iE K 0 h s q' a_ a_ row new hc x hb
theorem A3k{q c:Nat}(j:h0.get q=some (.cells [.chan c] 169))(f:h0.get c=some (.chan cap (xs.map I)))(y:xs.length<=cap)(A:cap<=4096)(iE:HB h0)(hK:5000<K):
 Ok (Ty K (.ptr q 0) h0) fun v h'=>∃q',Listed h0 h' v c cap xs q':=by
 simp only[Ty,dr];rw[V_ j f,Au,bk];exact Biw j ⟨_,f⟩ y A iE hK K 0 h0 .Aq 0 a_ a_ (.nil _ _ _ _) (fun x=>absurd x (bT _)) f (Av.refl _) iE
theorem Listed.same{c:Nat}(l:Listed h0 h v c cap xs q')(hc:h0.get c=some (.chan cap (xs.map I))):∀i,i<h0.next->h.get i=h0.get i:=by
 intro i f;by_cases e:i=c
 ·subst e;rw[l.chan,hc]
 ·exact l.chg.get i f e
end
section
theorem Bt8:(Fw TT 59 0).2.1 = [9,10]:=by kernel_rfl
theorem Bts:(Fw TT 116 0).2.1 = [19,20]:=by kernel_rfl
section
variable (H:Bu disp)
include H
theorem Bf8(he:1<=e){z x i:Int}(hg:h.get l0=some (Ax TT 59 14 0 tm .ready none d0))(t3:tmp tm 3=.ptr b3 0)(t4:tmp tm 4=.ptr b4 0)(W:h.get b3=some (.cells [I z] 3))(L:h.get b4=some (.cells [.bool false] 4))(hb:HB h):
 ∃h',Ag TT disp K (e+1) true l0 [I i,I x] h=some (.bool (decide (¬x=z)),h')/\h'.get l0=some (Ax TT 59 14 0 tm (if x=z then .done else .ready) (if x=z then some .ret else none) d0)/\h'.get b4=some (.cells [.bool (decide (x=z))] 4)/\Av (fun j=>j=l0\/j=b4) h h'/\HB h':=by
 have y:=hg;unfold Ax at y;rw[Bt8]at y;rw[Aow H he tm h (I i) (I x) y,t3,t4];have E:=hb _ _ hg;have Y:=hb _ _ L;have O:l0≠b3:=Ba hg W (by simp[Ax]);have f:l0≠b4:=Ba hg L (by simp[Ax]);simp only[JB,oT hg,JA,dr];have J:(h.put l0 (Ax TT 59 14 0 tm .busy none d0)).get b3=some (.cells [I z] 3):=by rw[Af _ O];exact W
 have A:(h.put l0 (Ax TT 59 14 0 tm .busy none d0)).get b4=some (.cells [.bool false] 4):=by rw[Af _ f];exact L
 have B:(h.put l0 (Ax TT 59 14 0 tm .busy none d0)).get l0=some (Ax TT 59 14 0 tm .busy none d0):=Ae _ _ _;have U:Av (fun j=>j=l0\/j=b4) h (h.put l0 (Ax TT 59 14 0 tm .busy none d0)):=(Av.refl h).Ar (.inl (.inl rfl)) E _;have C:HB (h.put l0 (Ax TT 59 14 0 tm .busy none d0)):=hb.put E _;have n1:(h.put l0 (Ax TT 59 14 0 tm .busy none d0)).next=h.next:=rfl
 generalize h.put l0 (Ax TT 59 14 0 tm .busy none d0)=h1 at J A B U C n1⊢;simp only[Cy J rfl,Aa,I,Ac];by_cases X:x=z
 ·simp only[X,aC,Aa,aB,aA,bK]
  rw[nG (o:=0) (n:=1) (v:=.bool true) (l':=[.bool true]) A rfl rfl rfl,Si (by rw[Af _ (cR f)];exact B)];exact⟨_,rfl,Ae _ _ _,by rw[Af _ f];exact Ae _ _ _,(U.Ar (.inl (.inr rfl)) a_ _).Ar (.inl (.inl rfl)) (by rw[Ab.Qv];omega) _,(C.put a_ _).put (by rw[Ab.Qv];omega) _⟩
 ·simp only[X,aA,Aa,aQ,aC,ak]
  rw[Si B];exact⟨_,rfl,Ae _ _ _,by rw[Af _ f];exact A,U.Ar (.inl (.inl rfl)) a_ _,C.put a_ _⟩
theorem Bg7(he:2<=e){l1 d1 b5:Nat}{z x i dd:Int}(hg:h.get l0=some (Ax TT 59 14 0 tm .ready none d0))(t3:tmp tm 3=.ptr b3 0)(t4:tmp tm 4=.ptr b4 0)(g3:h.get b3=some (.cells [I z] 3))(g4:h.get b4=some (.cells [.bool false] 4))
 (f:h.get l1=some (Ax TT 116 27 0 iZ .ready none d1)) (u2:tmp iZ 2=.ptr b2 0) (u3:tmp iZ 3=.ptr b5 0) (g2:h.get b2=some (.cells [.Vz l0] 125)) (g5:h.get b5=some (.cells [I dd] 3)) (hb:HB h) :
 ∃h',Ag TT disp K (e+1) true l1 [I i,I x] h=some (.bool (decide (¬x=z)),h')/\h'.get l0=some (Ax TT 59 14 0 tm (if x=z then .done else .ready) (if x=z then some .ret else none) d0)/\h'.get l1=some (Ax TT 116 27 0 iZ (if x=z then .done else .ready) (if x=z then some .ret else none) d1) /\
  h'.get b4=some (.cells [.bool (decide (x=z))] 4)/\Av (fun j=>j=l0\/j=b4\/j=l1) h h'/\HB h':=by
 obtain⟨e,rfl⟩:=d_ e;have C:=f;unfold Ax at C;rw[Bts]at C;rw[Amh H a_ iZ h (I i) (I x) C,u2,u3];have O:=hb _ _ f;have E:l1≠l0:=Ba f hg (by simp[Ax]);have A:∀b o,h.get b=some o->(∀st p,o≠Ax TT 116 27 0 iZ st p d1)->(h.put l1 (Ax TT 116 27 0 iZ .busy none d1)).get b=some o:=fun b o gb hn=>by
  rw[Af _ (Ba f gb (fun x=>hn _ _ x.symm))];exact gb
 simp only[KF,oT f,Xj,dr];have q0:=A _ _ hg (by intros;simp[Ax]);have q2:=A _ _ g2 (by intros;simp[Ax]);have q3:=A _ _ g3 (by intros;simp[Ax]);have W:=A _ _ g4 (by intros;simp[Ax]);have q5:=A _ _ g5 (by intros;simp[Ax]);have X:(h.put l1 (Ax TT 116 27 0 iZ .busy none d1)).get l1=some (Ax TT 116 27 0 iZ .busy none d1):=Ae _ _ _;have x1:Av (fun j=>j=l0\/j=b4\/j=l1) h (h.put l1 (Ax TT 116 27 0 iZ .busy none d1)):=(Av.refl h).Ar (.inl (.inr (.inr rfl))) O _;have J:HB (h.put l1 (Ax TT 116 27 0 iZ .busy none d1)):=hb.put O _;have n1:(h.put l1 (Ax TT 116 27 0 iZ .busy none d1)).next=h.next:=rfl
 generalize h.put l1 (Ax TT 116 27 0 iZ .busy none d1)=h1 at q0 X q2 q3 W q5 x1 J n1⊢;simp only[Cy q2 rfl,Cy q5 rfl,Aa];have hc:Ue (Ag TT disp K (e+1) false) (Ag TT disp K (e+1) true) (.Vz l0) [I dd,I x] h1=Ag TT disp K (e+1) true l0 [I dd,I x] h1:=rfl;rw[hc];obtain⟨h2,r1,U,L,Y,r5⟩:=Bf8 (K:=K) H (e:=e) a_ (i:=dd) (x:=x) q0 t3 t4 q3 W J;rw[r1,Au];have B:h2.get l1=some (Ax TT 116 27 0 iZ .busy none d1):=Av.at Y J X (fun y=>by
  rcases y with y|y
  ·exact E y
  ·exact Ba X W (by simp[Ax]) y)
 have n2:=Y.next
 have x2:Av (fun j=>j=l0\/j=b4\/j=l1) h h2:=x1.trans (Y.mono fun j hj=>hj.elim .inl (fun y=>.inr (.inl y)));by_cases hx:x=z
 ·simp only[hx,aB,aA,aC,bK]at U L⊢
  simp only[Aa];rw[Si B];refine⟨_,rfl,?_,Ae _ _ _,?_,x2.Ar (.inl (.inr (.inr rfl))) a_ _,r5.put a_ _⟩
  ·rw[Af _ E];exact U
  ·rw[Af _ (Ba B L (by simp[Ax]))];exact L
 ·simp only[hx,aQ,aA,aC,ak]at U L⊢
  simp only[Aa];rw[Si B];refine⟨_,rfl,?_,Ae _ _ _,?_,x2.Ar (.inl (.inr (.inr rfl))) a_ _,r5.put a_ _⟩
  ·rw[Af _ E];exact U
  ·rw[Af _ (Ba B L (by simp[Ax]))];exact L
end
end
section
structure Bc4(h:Ab)(l0 d0:Nat)(tm:Bb)(b3 b4:Nat)(z:Int)(b2:Nat)(found:Bool):Prop where
 lp:h.get l0=some (Ax TT 59 14 0 tm (if found then .done else .ready) (if found then some .ret else none) d0)
 c3:h.get b3=some (.cells [I z] 3)
 c4:h.get b4=some (.cells [.bool found] 4)
 c2:h.get b2=some (.cells [.Vz l0] 125)
 hb:HB h
structure AB(tm:Bb)(b3 b4:Nat):Prop where
 t3:tmp tm 3=.ptr b3 0
 t4:tmp tm 4=.ptr b4 0
section
variable (H:Bu disp){z:Int}(T0:AB tm b3 b4){l1 d1:Nat}{b5:Nat}{dd:Int}(u2:tmp iZ 2=.ptr b2 0)(u3:tmp iZ 3=.ptr b5 0)
include H T0 u2 u3
theorem Bil(he:3<=e)(hn:xs.length<=4096):∀(m i:Nat) (h:Ab) (s:EV) (q':Nat),xs.length-i<m->i<=xs.length->Bc4 h l0 d0 tm b3 b4 z b2 false->h.get l1=some (Ax TT 116 27 0 iZ .ready none d1)->h.get b5=some (.cells [I dd] 3) ->
 Ce h s q' 3 1 xs.length (xs.map I)->(xs.take i).contains z=false ->
 Ok (Ki (Ag TT disp K e false) (Ag TT disp K e true) K m (.Vz l1) s (I xs.length) (I i) h) fun v h'=>v=.tuple []/\Bc4 h' l0 d0 tm b3 b4 z b2 (xs.contains z)/\h'.get l1=some (Ax TT 116 27 0 iZ (if xs.contains z then .done else .ready) (if xs.contains z then some .ret else none) d1)/\Av (fun j=>j=l0\/j=b4\/j=l1) h h':=by
 intro m;induction m with
 | zero=>intro i h s q' hm;omega
 | succ m ih=>
  intro i h s q' hm hi L g1 g5 row f;simp only[Ki,I,Ac,Aa];by_cases O:(i:Int)<xs.length
  ·have A:i<xs.length:=a_
   have B:=row.block a_;simp only[O,aC,Aa,L2];rw[row.ix A,Cy B rfl,bc,bH,aD A,eD,Hf];obtain⟨e,rfl⟩:=d_ e;have hc:Ue (Ag TT disp K (e+1) false) (Ag TT disp K (e+1) true) (.Vz l1) [I i,I xs[i]] h=Ag TT disp K (e+1) true l1 [I i,I xs[i]] h:=rfl;obtain⟨h2,r1,X,Y,r4,r5,r6⟩:=Bg7 (K:=K) H (e:=e) a_ (i:=i) (x:=xs[i]) L.lp T0.t3 T0.t4 L.c3 L.c4 g1 u2 u3 L.c2 g5 L.hb;have ae:∀k:EV->Ab->R,Am (Ue (Ag TT disp K (e+1) false) (Ag TT disp K (e+1) true) (.Vz l1) [.int .i64 (i:Int),I xs[i]] h) k=k (.bool (decide (¬xs[i]=z))) h2:=fun k=>by
    have:Ue (Ag TT disp K (e+1) false) (Ag TT disp K (e+1) true) (.Vz l1) [.int .i64 (i:Int),I xs[i]] h=some (.bool (decide (¬xs[i]=z)),h2):=hc.trans r1;rw[this,Au]
   rw[ae];have F1:∀b o,h.get b=some o->(∀st p,o≠Ax TT 59 14 0 tm st p d0)->(∀st p,o≠Ax TT 116 27 0 iZ st p d1)->(∀v,o≠.cells [v] 4)->h2.get b=some o:=fun b o C n0 n1 n4=>Av.at r5 L.hb C fun y=>by
    rcases y with rfl|rfl|rfl
    ·rw[L.lp]at C;cases C;exact n0 _ _ rfl
    ·rw[L.c4]at C;cases C;exact n4 _ rfl
    ·rw[g1]at C;cases C;exact n1 _ _ rfl
   have k3:=F1 _ _ L.c3 (by intros;simp[Ax]) (by intros;simp[Ax]) (by intros;simp);have k2:=F1 _ _ L.c2 (by intros;simp[Ax]) (by intros;simp[Ax]) (by intros;simp);have k5:=F1 _ _ g5 (by intros;simp[Ax]) (by intros;simp[Ax]) (by intros;simp);by_cases J:xs[i]=z
   ·have U:xs.contains z=true:=by
     rw[List.contains_iff_mem,<-J];exact bI A
    simp only[J,bK,aC]at X Y r4;simp only[J,aB,aA,Aa];exact .ret ⟨rfl,by rw[U];exact⟨X,k3,r4,k2,r6⟩,by rw[U];exact Y,r5⟩
   ·simp only[J,ak,aA]at X Y r4
    simp only[J,aQ,aC,Aa,L0,Ac];rw[Ch];have E:Ce h2 s q' 3 1 xs.length (xs.map I):=row.frame fun _=>by
     rw[F1 _ _ B (by intros;simp[Ax]) (by intros;simp[Ax]) (by intros;simp),B]
    have W:(xs.take (i+1)).contains z=false:=by
     rw[br A];simp only[List.contains_eq_mem,bN,aP,cq]at f⊢;intro y;rcases y with y|y
     ·exact f y
     ·exact J y.symm
    refine(ih (i+1) h2 s q' a_ a_ ⟨X,k3,r4,k2,r6⟩ Y k5 E W).mono ?_;rintro v h' ⟨a1,a2,a3,a4⟩;exact⟨a1,a2,a3,r5.trans a4⟩
  ·have:i=xs.length:=a_
   subst this;simp only[O,aA,Aa];rw[bY]at f;exact .ret ⟨rfl,by rw[f];exact L,by rw[f];exact g1,Av.refl _⟩
theorem Bpa(he:3<=e)(hK:5000<K){E q c:Nat}(O:h.get E=some (.cells [.ptr q 0] 133))(hq:h.get q=some (.cells [.chan c] 169))(hc:h.get c=some (.chan cap (xs.map I)))(B:xs.length<=cap)(C:cap<=4096)
 (L:Bc4 h l0 d0 tm b3 b4 z b2 false) (U:h.get l1=some (Ax TT 116 27 0 iZ .ready none d1)) (W:h.get b5=some (.cells [I dd] 3)) :
 Ok (Ag TT disp K (e+1) false 155 [.Vz l1,.ptr E 0] h) fun v h'=>Bc4 h' l0 d0 tm b3 b4 z b2 (xs.contains z)/\h'.get l1=some (Ax TT 116 27 0 iZ (if xs.contains z then .done else .ready) (if xs.contains z then some .ret else none) d1) /\
  (∀i,i<h.next->¬(i=l0\/i=b4\/i=l1)->h'.get i=h.get i)/\Av (fun j=>j=c\/j=l0\/j=b4\/j=l1) h h':=by
 rw[Anz H a_];simp only[L_,Cy O rfl,Aa];refine(A3k hq hc B C L.hb hK).Am ?_;rintro s h1 ⟨q',y⟩;rw[y.row.Ip];have same:=y.same hc;have f:∀i o,h.get i=some o->h1.get i=some o:=fun i o g=>by rw[same i (L.hb _ _ g)];exact g
 have X:Bc4 h1 l0 d0 tm b3 b4 z b2 false:=⟨f _ _ L.lp,f _ _ L.c3,f _ _ L.c4,f _ _ L.c2,y.hb⟩;refine(Bil (K:=K) H T0 u2 u3 he a_ K 0 h1 s q' a_ a_ X (f _ _ U) (f _ _ W) y.row (by simp)).mono ?_;rintro v h' ⟨_,Y,a3,J⟩;refine⟨Y,a3,fun i A hn=>by rw[J.get i (aM A y.chg.next) hn,same i A],?_⟩;exact(y.chg.mono fun i A=>.inl A).trans (J.mono fun i A=>.inr A)
end
end
section
def hasB(ps:Nat->List Int)(n:Nat)(z:Int):Bool:=(List.range n).any fun d=>(ps d).contains z
theorem Bim(ps:Nat->List Int)(n:Nat)(z:Int):hasB ps (n+1) z=(hasB ps n z||(ps n).contains z):=by
 unfold hasB;rw[cr,List.any_append];simp
theorem Jm{z:Int}:hasB ps n z=true↔∃d,d<n/\z∈ps d:=by
 unfold hasB;simp
theorem Boy{d:Nat}{z:Int}(hd:d<n)(h:(ps d).contains z=true):hasB ps n z=true:=Jm.2 ⟨d,hd,List.contains_iff_mem.1 h⟩
structure rj(h0 h:Ab)(C:Nat->Prop)(l0 d0:Nat)(tm:Bb)(b3 b4:Nat)(z:Int)(b2:Nat)(found:Bool):Prop where
 kp:Kp C h0 h
 look:Bc4 h l0 d0 tm b3 b4 z b2 found
 cd:h.get d0=some (.deferred true)
 n0:h0.next<=l0
 n4:h0.next<=b4
 nd:h0.next<=d0
section
variable (H:Bu disp){p:Nat}{q c:Nat->Nat}{g:Gm}(P:Fi h0 p ql n q c g ps)(iE:HB h0)(tM:∀d,d<n->(ps d).length<=g.Z.toNat)(hZ:g.Z<=4096)(hn:n<=64)
variable{z:Int}(T0:AB tm b3 b4)
include H P iE tM hZ hn T0
theorem Bmk(he:4<=e)(hK:5000<K):∀(m i:Nat) (h:Ab) (t1:Bb) (ds:List Nat),n-i<m->i<=n->rj h0 h (fun x=>∃d,d<n/\x=c d) l0 d0 tm b3 b4 z b2 false->tmp t1 2=.ptr b2 0 ->
 ds.Nodup->(∀d∈ds,h.get d=some (.deferred true)/\h0.next<=d/\d≠d0)->hasB ps i z=false ->
 Ok (Mt (Ag TT disp K e false) (Ag TT disp K e true) K m t1 (.slice ql 0 n n true) (I n) (I i) h ds) fun v h'=>rj h0 h' (fun x=>∃d,d<n/\x=c d) l0 d0 tm b3 b4 z b2 (hasB ps n z):=by
 intro m;induction m with
 | zero=>intro i h t1 ds hm;omega
 | succ m ih=>
  intro i h t1 ds hm hi M u2 ag ab ah;have fin:∀(h2:Ab) (dl:List Nat) (found:Bool),found=hasB ps n z->rj h0 h2 (fun x=>∃d,d<n/\x=c d) l0 d0 tm b3 b4 z b2 found->dl.Nodup->(∀d∈dl,h2.get d=some (.deferred true)/\h0.next<=d/\d≠d0) ->
   Ok (Gb dl h2 fun h=>some (EV.tuple [],h)) fun v h'=>rj h0 h' (fun x=>∃d,d<n/\x=c d) l0 d0 tm b3 b4 z b2 (hasB ps n z):=by
   rintro h2 dl found rfl M2 a2 U;refine Ok.unwind a2 (fun d hd=>(U d hd).1) M2.look.hb fun h3 ch bw=>.ret ?_
   have nk:∀b o,h2.get b=some o->o≠.deferred true->¬(b∈dl):=fun b o J f hb=>by rw[(U b hb).1]at J;cases J;exact f rfl
   have a:∀b o,h2.get b=some o->o≠.deferred true->h3.get b=some o:=fun b o J f=>Av.at ch M2.look.hb J (nk b o J f)
   refine⟨M2.kp.ug ch fun i hi=>(U i hi).2.1,⟨a _ _ M2.look.lp (by simp[Ax]),a _ _ M2.look.c3 (by simp),a _ _ M2.look.c4 (by simp),a _ _ M2.look.c2 (by simp),ch.hb M2.look.hb⟩,Av.at ch M2.look.hb M2.cd (fun y=>(U _ y).2.2 rfl),M2.n0,M2.n4,M2.nd⟩
  simp only[Mt,I,Ac,Aa];by_cases ai:(i:Int)<n
  ·have A:i<n:=a_
   have a3:∀b o,h0.get b=some o->h.get b=some o:=fun b o J=>M.kp.at iE J
   have P1:=P.ext a3;simp only[ai,aC,Aa,KD];rw[P1.rowAt.ix A,P1.oP A]
   try simp only[Aa]
   refine Ok.hM (Ad _ _) rfl rfl (by show 0<1;decide) ?_;have bz:=M.kp.chg.next
   have x1:Ext h ((h.new (.cells [.int .i64 0] 3)).put h.next (.cells [EV.int .i64 (i:Int)] 3)):=(Av.new _ _:Ext h _).Ar (.inr (aE _)) (aN _) _;have g5:((h.new (.cells [.int .i64 0] 3)).put h.next (.cells [EV.int .i64 (i:Int)] 3)).get h.next=some (.cells [I i] 3):=Ae _ _ _
   simp only[List.set];generalize (h.new (.cells [.int .i64 0] 3)).put h.next (.cells [EV.int .i64 (i:Int)] 3)=h1 at x1 g5⊢
   have a6:=x1.hb M.look.hb;have b6:=x1.next
   simp only[xN,Aa];have x2:Ext h (h1.new (.cells [.ptr (q i) 0] 133)):=x1.Db _;have g6:(h1.new (.cells [.ptr (q i) 0] 133)).get h1.next=some (.cells [.ptr (q i) 0] 133):=Ad _ _
   have aj:(h1.new (.cells [.ptr (q i) 0] 133)).get h.next=some (.cells [I i] 3):=by rw[Az _ (a6 _ _ g5)];exact g5
   have n2:h1.next<(h1.new (.cells [.ptr (q i) 0] 133)).next:=aN _
   generalize h1.new (.cells [.ptr (q i) 0] 133)=h2 at x2 g6 aj n2⊢;have a7:=x2.hb M.look.hb;generalize ae:(((((((t1.put 13 (some (EV.bool true))).put 14 (some (EV.int .i64 (i:Int)))).put 15 (some (EV.ptr ql (i*1)))).put 16 (some (EV.ptr (q i) 0))).put 3 (some (EV.ptr h.next 0))).put 4 (some (EV.ptr (q i) 0))).put 17 (some (EV.ptr (q i) 0))).put 18 (some (EV.func 155 [] [EV.ptr h1.next 0]))=t2;have v2:tmp t2 2=.ptr b2 0:=by rw[<-ae];simp only[Jg,reduceIte,Nat.reduceEqDiff,u2]
   have v3:tmp t2 3=.ptr h.next 0:=by rw[<-ae];simp only[Jg,reduceIte,Nat.reduceEqDiff]
   have a8:∀w,tmp ((t2.put 26 (some w)).put 12 (some w)) 2=.ptr b2 0:=fun w=>by simp only[Jg,reduceIte,Nat.reduceEqDiff,v2]
   clear ae;refine Ok.range ?_;have x3:Ext h (Cg TT 116 27 0 t2 h2):=x2.trans J2;have ao:=x3.hb M.look.hb;have C:∀b o,h.get b=some o->(Cg TT 116 27 0 t2 h2).get b=some o:=fun b o J=>x3.at M.look.hb J
   have Y:∀b o,h2.get b=some o->(Cg TT 116 27 0 t2 h2).get b=some o:=fun b o J=>Ext.at J2 a7 J
   have L3:Bc4 (Cg TT 116 27 0 t2 h2) l0 d0 tm b3 b4 z b2 false:=⟨C _ _ M.look.lp,C _ _ M.look.c3,C _ _ M.look.c4,C _ _ M.look.c2,ao⟩;have P3:=P1.ext C;obtain⟨e,rfl⟩:=d_ e;refine(Bpa (K:=K) H T0 (l1:=h2.next+1) (d1:=h2.next) v2 v3 (e:=e) a_ hK (Y _ _ g6) (P3.que i A) (P3.chan i A) (tM i A) a_ L3 Kj (Y _ _ aj)).mono ?_;rintro v h4 ⟨L4,E,B,au⟩;have ca:=au.next
   have cc:h2.next+1<(Cg TT 116 27 0 t2 h2).next:=by rw[A1s];omega
   have a9:Kp (fun x=>∃d,d<n/\x=c d) h0 h4:=by
    refine⟨(M.kp.chg.trans (Ext.to x3)).then au ?_,fun j hj=>?_⟩
    ·rintro j (rfl|rfl|rfl|rfl) hl
     ·exact⟨i,A,rfl⟩
     ·have:=M.n0;omega
     ·have:=M.n4;omega
     ·have:=x2.next;omega
    ·have bb:j<(Cg TT 116 27 0 t2 h2).next:=by have:=x3.next;omega
     rw[B j bb (by rintro(rfl|rfl|rfl)<;>(have:=M.n0;have:=M.n4;have:=x2.next;omega)),x3.get j a_ id];exact M.kp.same j hj
   have bf:h4.get h2.next=some (.deferred true):=by
    rw[B _ a_ ?_]
    ·exact L7
    ·rintro(y|y|y)
     ·have:=M.look.hb _ _ M.look.lp;omega
     ·have:=M.look.hb _ _ M.look.c4;omega
     ·omega
   have L:∀d,h.get d=some (.deferred true)->h4.get d=some (.deferred true):=fun d gd=>by
    have aw:=C _ _ gd;rw[B d (ao _ _ aw) ?_]
    ·exact aw
    ·rintro(rfl|rfl|rfl)
     ·rw[M.look.lp]at gd;cases gd
     ·rw[M.look.c4]at gd;cases gd
     ·have:=M.look.hb _ _ gd;omega
   have bj:∀o,h4.get (h2.next+1)=some o->∀b o',h4.get b=some o'->(∀st p,o'≠Ax TT 116 27 0 t2 st p h2.next)->b≠h2.next+1:=by
    intro o ho b o' O f e';subst e';rw[E]at O;cases O;exact f _ _ rfl
   have W:∀(p5:Option Code),rj h0 (h4.put (h2.next+1) (Ax TT 116 27 0 t2 .exhausted p5 h2.next)) (fun x=>∃d,d<n/\x=c d) l0 d0 tm b3 b4 z b2 ((ps i).contains z):=by
    intro p5;have ax:h2.next+1<h4.next:=a_
    have pn:∀b o',h4.get b=some o'->(∀st p,o'≠Ax TT 116 27 0 t2 st p h2.next)->(h4.put (h2.next+1) (Ax TT 116 27 0 t2 .exhausted p5 h2.next)).get b=some o':=fun b o' O f=>by
     rw[Af _ (cR (bj _ E b o' O f))];exact O
    refine⟨a9.Ar (by have:=x2.next;omega) ax _,⟨pn _ _ L4.lp (by intros;simp[Ax]),pn _ _ L4.c3 (by intros;simp[Ax]),pn _ _ L4.c4 (by intros;simp[Ax]),pn _ _ L4.c2 (by intros;simp[Ax]),L4.hb.put ax _⟩,pn _ _ (L _ M.cd) (by intros;simp[Ax]),M.n0,M.n4,M.nd⟩
   have aa:∀(p5:Option Code),∀d∈h2.next::ds,(h4.put (h2.next+1) (Ax TT 116 27 0 t2 .exhausted p5 h2.next)).get d=some (.deferred true)/\h0.next<=d/\d≠d0:=by
    intro p5 d hd;rcases bX.1 hd with rfl|hd
    ·exact⟨by rw[Af _];exact bf,by have:=x2.next;omega,by have:=M.look.hb _ _ M.cd;omega⟩
    ·obtain⟨a,b,c'⟩:=ab d hd
     exact⟨by rw[Af _ (by have:=M.look.hb _ _ a;omega)];exact L _ a,b,c'⟩
   have az:(h2.next::ds).Nodup:=cF.2 ⟨fun hd=>by have:=M.look.hb _ _ (ab _ hd).1;omega,ag⟩;cases X:(ps i).contains z with
   | true=>
    rw[X]at E W;refine .inr ⟨E,?_⟩;exact fin _ _ true (Boy A X).symm (W _) az (aa _)
   | false=>
    rw[X]at E W;refine .inl ⟨E,?_⟩;simp only[Qb,Ac];rw[Ch];exact ih (i+1) _ _ _ a_ a_ (W _) (a8 _) az (aa _) (by rw[Bim,ah,X];rfl)
  ·have:i=n:=a_
   subst this;simp only[ai,aA,Aa];exact fin h ds false ah.symm M ag ab
end
section
variable (H:Bu disp){p:Nat}{q c:Nat->Nat}{g:Gm}(P:Fi h0 p ql n q c g ps)(iE:HB h0)(tM:∀d,d<n->(ps d).length<=g.Z.toNat)(hZ:g.Z<=4096)(hn:n<=64)
include H P iE tM hZ hn
theorem ED {d:Nat}(hd:7<=d)(hK:5000<K)(z:Int):Ok (Ag TT disp K d false 59 [.ptr p 0,I z] h0) fun v h'=>v=.bool (hasB ps n z)/\Kp (fun x=>∃d,d<n/\x=c d) h0 h'/\HB h':=by
 obtain⟨e,rfl⟩:∃k,d=k+2:=⟨d-2,a_⟩;rw[Aw1 H a_];simp only[I_,I,Aa,xM];have x1:Ext h0 (((h0.new (.cells [.int .i64 z] 3)).new (.cells [.bool false] 4)).new (.cells [.ptr p 0] 76)):=((Av.new _ _).Db _).Db _;have n1:(((h0.new (.cells [.int .i64 z] 3)).new (.cells [.bool false] 4)).new (.cells [.ptr p 0] 76)).next=h0.next+3:=rfl
 have B:(((h0.new (.cells [.int .i64 z] 3)).new (.cells [.bool false] 4)).new (.cells [.ptr p 0] 76)).get (h0.next+2)=some (.cells [.ptr p 0] 76):=Ad _ _;have g4:(((h0.new (.cells [.int .i64 z] 3)).new (.cells [.bool false] 4)).new (.cells [.ptr p 0] 76)).get (h0.next+1)=some (.cells [.bool false] 4):=by
  rw[Az _ (aN _)];exact Ad _ _
 have g3:(((h0.new (.cells [.int .i64 z] 3)).new (.cells [.bool false] 4)).new (.cells [.ptr p 0] 76)).get h0.next=some (.cells [I z] 3):=by
  rw[Az _ (show h0.next<h0.next+2 from a_),Az _ (show h0.next<h0.next+1 from a_)];exact Ad _ _
 have ah:((h0.new (.cells [.int .i64 z] 3)).new (.cells [.bool false] 4)).next=h0.next+2:=rfl
 have ai:(h0.new (.cells [.int .i64 z] 3)).next=h0.next+1:=rfl
 rw[ah,ai];generalize ((h0.new (.cells [.int .i64 z] 3)).new (.cells [.bool false] 4)).new (.cells [.ptr p 0] 76)=h1 at x1 n1 B g4 g3⊢;have O:=x1.hb iE;generalize U:(((((Tr.nil.put 0 (some (EV.ptr p 0))).put 1 (some (EV.int .i64 z))).put 3 (some (EV.ptr h0.next 0))).put 4 (some (EV.ptr (h0.next+1) 0))).put 7 (some (EV.ptr p 0))).put 8 (some (EV.func 116 [] [EV.ptr (h0.next+2) 0]))=tm;have T0:AB tm h0.next (h0.next+1):=⟨by rw[<-U];simp only[Jg,reduceIte,Nat.reduceEqDiff],by rw[<-U];simp only[Jg,reduceIte,Nat.reduceEqDiff]⟩
 clear U;refine Ok.range ?_;rw[Ary H a_];simp only[KE,Aa];have x2:Ext h1 (Cg TT 59 14 0 tm h1):=J2;have aa:=x2.hb O;have aj:Ta 125 (.Vz (h1.next+1)) (Cg TT 59 14 0 tm h1)=fun(k:EV->Ab->R)=>k (.ptr (h1.next+2) 0) ((Cg TT 59 14 0 tm h1).new (.cells [.Vz (h1.next+1)] 125)):=rfl
 rw[aj];have x3:Ext h1 ((Cg TT 59 14 0 tm h1).new (.cells [.Vz (h1.next+1)] 125)):=x2.Db _;have k2:((Cg TT 59 14 0 tm h1).new (.cells [.Vz (h1.next+1)] 125)).get (h1.next+2)=some (.cells [.Vz (h1.next+1)] 125):=Ad _ _;have kl:((Cg TT 59 14 0 tm h1).new (.cells [.Vz (h1.next+1)] 125)).get (h1.next+1)=some (Ax TT 59 14 0 tm .ready none h1.next):=by rw[Az _ (aa _ _ Kj)];exact Kj
 have kd:((Cg TT 59 14 0 tm h1).new (.cells [.Vz (h1.next+1)] 125)).get h1.next=some (.deferred true):=by rw[Az _ (aa _ _ L7)];exact L7
 generalize (Cg TT 59 14 0 tm h1).new (.cells [.Vz (h1.next+1)] 125)=h3 at x3 k2 kl kd⊢;have al:=x3.hb O;have C:∀b o,h1.get b=some o->h3.get b=some o:=fun b o B=>x3.at O B
 have P3:Fi h3 p ql n q c g ps:=P.ext fun b o B=>C _ _ (x1.at iE B)
 simp only[Cy (C _ _ B) rfl,Aa,P3.list];have M3:rj h0 h3 (fun x=>∃d,d<n/\x=c d) (h1.next+1) h1.next tm h0.next (h0.next+1) z (h1.next+2) false:=
  ⟨Ext.kp (x1.trans x3),⟨kl,C _ _ g3,C _ _ g4,k2,al⟩,kd,a_,a_,a_⟩
 refine(Bmk (K:=K) H P iE tM hZ hn T0 (e:=e) a_ hK K 0 h3 _ [] a_ a_ M3 (by simp only[Jg,reduceIte,Nat.reduceEqDiff]) dR (fun d hd=>by cases hd) rfl).mono ?_;rintro v h4 j;have ab:=j.look.hb _ _ j.look.lp;have nl:∀b o st J,h4.get b=some o->(∀st p,o≠Ax TT 59 14 0 tm st p h1.next)->(h4.put (h1.next+1) (Ax TT 59 14 0 tm st J h1.next)).get b=some o:=fun b o st J B ao=>by
  rw[Af _ (Ba j.look.lp B (fun y=>ao _ _ y.symm))];exact B
 have L:∀st J,Kp (fun x=>∃d,d<n/\x=c d) h0 (h4.put (h1.next+1) (Ax TT 59 14 0 tm st J h1.next)):=fun st J=>j.kp.Ar a_ ab _
 have E:∀st J,HB (h4.put (h1.next+1) (Ax TT 59 14 0 tm st J h1.next)):=fun st J=>j.look.hb.put ab _
 have f:∀(A:Ab) (b:Bool),A.get (h0.next+1)=some (.cells [.bool b] 4)->J5 TT [.c (.ptr (h0.next+1) 0) 4] A=some (.bool b,A):=by
  intro A b hg;have hr:Jo A (h0.next+1) 0 1=some [.bool b]:=by unfold Jo;rw[hg];rfl
  unfold J5;simp only[kB,show TT.size 4=some 1 by kernel_rfl,show TT.agg 4=some false by kernel_rfl,hr]
 cases hf:hasB ps n z with
 | true=>
  rw[hf]at j;refine .inr ⟨j.look.lp,?_⟩;refine Ok.unwind (cF.2 ⟨by simp,dR⟩) (fun d hd=>by rw[aP]at hd;subst hd;exact nl _ _ _ _ j.cd (by intros;simp[Ax])) (E _ _) fun A W aq=>?_
  have X:A.get (h0.next+1)=some (.cells [.bool true] 4):=Av.at W (E _ _) (nl _ _ _ _ j.look.c4 (by intros;simp[Ax])) (by simp;omega);rw[f A true X];exact .ret ⟨rfl,(L _ _).ug W fun i hi=>by rw[aP]at hi;omega,W.hb (E _ _)⟩
 | false=>
  rw[hf]at j;refine .inl ⟨j.look.lp,?_⟩;simp only[xR,dr];refine Ok.hM (nl _ _ _ _ j.look.c4 (by intros;simp[Ax])) rfl rfl (by show 0<1;decide) ?_;have ad:h0.next+1<(h4.put (h1.next+1) (Ax TT 59 14 0 tm .exhausted none h1.next)).next:=j.look.hb _ _ j.look.c4
  have Y:HB ((h4.put (h1.next+1) (Ax TT 59 14 0 tm .exhausted none h1.next)).put (h0.next+1) (.cells ([EV.bool false].set 0 (.bool false)) 4)):=(E _ _).put ad _;refine Ok.unwind (cF.2 ⟨by simp,dR⟩) (fun d hd=>by rw[aP]at hd;subst hd;rw[Af _];exact nl _ _ _ _ j.cd (by intros;simp[Ax])) Y fun A W aq=>?_
  have X:A.get (h0.next+1)=some (.cells [.bool false] 4):=Av.at W Y (Ae _ _ _) (by simp;omega);rw[f A false X];exact .ret ⟨rfl,((L _ _).Ar a_ ad _).ug W fun i hi=>by rw[aP]at hi;omega,W.hb Y⟩
end
end
section
def Bq(g:Gm)(z:Int):Int:=if z<0\/g.D*g.Z<=z then -1 else z/g.Z
theorem J8 {g:Gm}(s:Sm g)(z:Int)(E : -9223372036854775808<=z/\z<=9223372036854775807)(h:Ab):Ok (E5 K (gV g) (I z) h) fun v h'=>v=I (Bq g z)/\Ext h h':=by
 have:=s.d0;have:=s.d1;have:=s.z0;have:=s.z1;obtain⟨J,m1⟩:=Rl (a:=g.D) (b:=g.Z) (A:=8) (B:=64);simp only[E5,gV,Aa,I,Ac];have hg:(h.new (.cells (gL g) 23)).get h.next=some (.cells (gL g) 23):=Ad _ _
 have hn:h.next<(h.new (.cells (gL g) 23)).next:=aN _
 have y:Ext h (h.new (.cells (gL g) 23)):=Av.new _ _;generalize h.new (.cells (gL g) 23)=C at hg hn y⊢;unfold Bq;by_cases h1:z<0
 ·simp only[h1,aC,Aa,Ac,U4]
  exact .ret ⟨by rw[aI (.inl trivial)],y⟩
 ·simp only[h1,aA,Aa,Ac,Cz hg rfl,Ak (show(gL g).length=6 from rfl)]
  rw[show EV.agg (gL g)=gV g from rfl,N8 s,Au];simp only[I,Ac,U4];by_cases h2:g.D*g.Z<=z
  ·simp only[h2,aC,Aa]
   exact .ret ⟨by rw[aI (.inr trivial)],y.Db _⟩
  ·have f:(C.new (.cells (gL g) 23)).get h.next=some (.cells (gL g) 23):=by rw[Az _ hn];exact hg
   have j:Ext h (C.new (.cells (gL g) 23)):=y.Db _;generalize C.new (.cells (gL g) 23)=hc at f j⊢;simp only[h2,aA,Aa,FY,Cy f rfl,gL,I];rw[sB a_ a_ a_];exact .ret ⟨by rw[aG (by rintro(x|x)<;>exact x)],j⟩
def upd(ps:Nat->List Int)(d:Nat)(l:List Int):Nat->List Int:=fun e=>if e=d then l else ps e
def nA(n:Nat)(c:Nat->Nat):Nat->Prop:=fun x=>∃d,d<n/\x=c d
def AD:D5->Prop
 | .chan ..=>False
 | _=>True
theorem Fi.wk{p:Nat}{q c:Nat->Nat}{g:Gm}(P:Fi h p ql n q c g ps){b:Nat}(f:h.get b=some o)(j:AD o):¬nA n c b:=by
 rintro⟨d,hd,rfl⟩;rw[P.chan d hd]at f;cases f;exact j
theorem Fi.put{p:Nat}{q c:Nat->Nat}{g:Gm}(P:Fi h p ql n q c g ps){d:Nat}(hd:d<n)(l:List Int):Fi (h.put (c d) (.chan g.Z.toNat (l.map I))) p ql n q c g (upd ps d l):=by
 have ne:∀b o,h.get b=some o->AD o->(h.put (c d) (.chan g.Z.toNat (l.map I))).get b=some o:=fun b o j y=>by
  rw[Af _ (fun e=>P.wk j y ⟨d,hd,e.symm⟩)];exact j
 refine⟨P.pos,ne _ _ P.G3 trivial,ne _ _ P.row trivial,fun e he=>ne _ _ (P.que e he) trivial,fun e he=>?_,P.inj⟩;unfold upd;by_cases f:e=d
 ·subst f;rw[aI rfl];exact Ae _ _ _
 ·rw[aG f,Af _ (fun x=>f (P.inj _ _ he hd x.symm))];exact P.chan e he
theorem Fi.kp{S:Nat->Prop}{p:Nat}{q c:Nat->Nat}{g:Gm}(P:Fi h p ql n q c g ps)(hb:HB h)(k:Kp S h h'):Fi h' p ql n q c g ps:=P.ext fun i o g=>k.at hb g
structure Tc(n:Nat)(g:Gm)(ps:Nat->List Int):Prop where
 nd:n=g.D.toNat
 sm:Sm g
 cap:∀d,d<n->(ps d).length<=g.Z.toNat
theorem Tc.bd{g:Gm}(z:Tc n g ps):n<=8/\g.Z<=64/\(n:Int)=g.D:=by
 have:=z.nd;have:=z.sm.d0;have:=z.sm.d1;have:=z.sm.z1;omega
theorem Tc.small{g:Gm}(z:Tc n g ps):z9 n ps:=by
 obtain⟨a,b,_⟩:=z.bd;exact⟨a_,fun d hd=>by have:=z.cap d hd;omega⟩
theorem Tc.upd{g:Gm}(z:Tc n g ps){d:Nat}{l:List Int}(f:l.length<=g.Z.toNat):Tc n g (upd ps d l):=
 ⟨z.nd,z.sm,fun e he=>by unfold Ev.upd;split;exact f;exact z.cap e he⟩
def Wv(g:Gm)(n:Nat)(ps:Nat->List Int)(z:Int):Int × (Nat->List Int):=
 if Bq g z<0 then(13,ps)else if hasB ps n z then(16,ps)else
  if(ps (Bq g z).toNat).length<g.Z.toNat then(0,upd ps (Bq g z).toNat (ps (Bq g z).toNat++[z]))else(17,ps)
theorem I8 {g:Gm}(s:Sm g)(z:Int):Bq g z = -1\/(0<=Bq g z/\Bq g z<g.D/\Bq g z=z/g.Z/\0<=z/\z<g.D*g.Z):=by
 have:=s.z0;unfold Bq;split
 ·exact .inl rfl
 ·refine .inr ⟨Int.ediv_nonneg a_ a_,Int.ediv_lt_of_lt_mul a_ a_,rfl,a_,a_⟩
section
variable (H:Bu disp){p:Nat}{q c:Nat->Nat}{g:Gm}(P:Fi h p ql n q c g ps)(hb:HB h)(Z:Tc n g ps)(hK:5000<K)
include P hb Z hK
theorem xm(d:Int):Ok (Pg K (.ptr p 0) (I d) h) fun v h'=>Av (nA n c) h h'/\HB h'/\∃x e f_,v=.tuple [I x,I e]/\Fi h' p ql n q c g f_/\Tc n g f_ /\
 ((d<0\/(n:Int)<=d)/\x=0/\e=13/\f_=ps\/(0<=d/\d<n/\ps d.toNat = []/\x=0/\e=15/\f_=ps)\/(0<=d/\d<n/\e=0/\∃r,ps d.toNat=x::r/\f_=upd ps d.toNat r)):=by
 simp only[Pg,I,Ac,Aa];by_cases h1:d<0
 ·simp only[h1,aC,Aa,Ac,Xz]
  exact .ret ⟨Av.refl _,hb,0,13,ps,rfl,P,Z,.inl ⟨.inl trivial,rfl,rfl,rfl⟩⟩
 ·simp only[h1,aA,Aa,Ac,P.list,Xz]
  by_cases h2:(n:Int)<=d
  ·simp only[h2,aC,Aa]
   exact .ret ⟨Av.refl _,hb,0,13,ps,rfl,P,Z,.inl ⟨.inr trivial,rfl,rfl,rfl⟩⟩
  ·obtain⟨d,rfl⟩:=av (show 0<=d from a_)
   have hd:d<n:=a_
   simp only[h2,aA,Aa,KP,P.list];rw[P.rowAt.ix hd];simp only[P.oP hd];cases f:ps d with
   | nil=>
    rw[take_nil (P.que _ hd) (P.chan _ hd) f];simp only[Aa];exact .ret ⟨Av.refl _,hb,0,15,ps,rfl,P,Z,.inr (.inl ⟨a_,a_,f,rfl,rfl,rfl⟩)⟩
   | cons x r=>
    rw[take_cons (P.que _ hd) (P.chan _ hd) f];simp only[Aa];have lt:=hb _ _ (P.chan _ hd);refine .ret ⟨(Av.refl h).Ar (.inl ⟨_,hd,rfl⟩) lt _,hb.put lt _,x,0,upd ps d r,rfl,P.put hd r,Z.upd ?_,.inr (.inr ⟨a_,a_,rfl,r,f,rfl⟩)⟩;have:=Z.cap _ hd;rw[f]at this;simp at this;omega
include H
theorem WH {d:Nat}(hd:8<=d)(z:Int)(W : -9223372036854775808<=z/\z<=9223372036854775807):Ok (Ag TT disp K d false 28 [.ptr p 0,I z] h) fun v h'=>Av (nA n c) h h'/\HB h'/\v=I (Wv g n ps z).1/\Fi h' p ql n q c g (Wv g n ps z).2/\Tc n g (Wv g n ps z).2:=by
 obtain⟨e,rfl⟩:=d_ d;obtain⟨b1,b2,b3⟩:=Z.bd;rw[Atm H a_];simp only[JQ,Aa,P.pU];refine(J8 Z.sm z W h).Am ?_;rintro _ h1 ⟨rfl,C⟩;have A:=C.hb hb;have E:=P.ext fun i o g=>C.at hb g
 simp only[I,Ac];unfold Wv;rcases I8 Z.sm z with J|⟨d0,d1,d2,d3,d4⟩
 ·rw[J]
  simp only[show(-1:Int)<0 from c_,aC,Aa,bK];exact .ret ⟨Ext.to C,A,rfl,E,Z⟩
 ·have L:¬Bq g z<0:=a_
  simp only[L,aA,Aa,ak];refine(ED (K:=K) H E A Z.cap a_ a_ (d:=e) a_ hK z).Am ?_;rintro _ h2 ⟨rfl,U,y⟩;have j:=E.kp A U;have B:Av (nA n c) h h2:=(Ext.to C).trans U.chg;cases hf:hasB ps n z with
  | true=>
   simp only[Aa,bK];exact .ret ⟨B,y,rfl,j,Z⟩
  | false=>
   have f:(Bq g z).toNat<n:=a_
   simp only[Aa,JP,j.list];rw[show Bq g z=((Bq g z).toNat:Int) from a_,j.rowAt.ix f];simp only[j.oP f,bD];have lt:=y _ _ (j.chan _ f);by_cases O:(ps (Bq g z).toNat).length<g.Z.toNat
   ·rw[AA (j.que _ f) (j.chan _ f) z O,Au]
    rw[aI O];refine .ret ⟨B.Ar (.inl ⟨_,f,rfl⟩) lt _,y.put lt _,rfl,j.put f _,Z.upd ?_⟩;rw[aF];simp;omega
   ·rw[Bsn (j.que _ f) (j.chan _ f) z a_,Au]
    rw[aG O];exact .ret ⟨B,y,rfl,j,Z⟩
end
end
section
def Pu(z:Int)(xs:List Int):List Int:=xs.filter fun x=>decide (¬x=z)
theorem Bld(z x:Int)(r:List Int):Pu z (x::r)=(if x=z then[]else[x])++Pu z r:=by
 unfold Pu;rw[eh];by_cases h:x=z<;>simp[h]
theorem Bdy(z:Int)(a b:List Int):Pu z (a++b)=Pu z a++Pu z b:=fH ..
theorem WI(z:Int)(xs:List Int):(Pu z xs).length<=xs.length:=fI _ _
section
variable (H:Bu disp)(hK:5000<K)
include H hK
theorem Bja(he:1<=e){q c:Nat}{z:Int}(y:h0.get q=some (.cells [.chan c] 169))(f:∃b,h0.get c=some (.chan cap b))(J:h0.get b3=some (.cells [I z] 3))(ae:xs.length<=cap)(ag:cap<=4096)(iE:HB h0):∀(m i:Nat) (h:Ab),xs.length-i<m->i<=xs.length ->
 h.get c=some (.chan cap ((xs.drop i++Pu z (xs.take i)).map I))->Av (fun j=>j=c) h0 h->HB h ->
 Ok (Lc (Ag TT disp K e false) (Ag TT disp K e true) K m (.ptr q 0) (.func 169 [] [.ptr b3 0]) (I ((i:Int)-(Pu z (xs.take i)).length)) (I xs.length) (I i) h) fun v h'=>v=I ((xs.length:Int)-(Pu z xs).length)/\h'.get c=some (.chan cap ((Pu z xs).map I))/\Av (fun j=>j=c) h0 h'/\HB h':=by
 obtain⟨b0,f⟩:=f;have L:q≠c:=Ba y f (by simp);have aa:b3≠c:=Ba J f (by simp);have lc:=iE _ _ f;intro m;induction m with
 | zero=>intro i h hm;omega
 | succ m ih=>
  intro i h hm hi hc x hb;simp only[Lc,I,Ac,Aa];by_cases O:(i:Int)<xs.length
  ·have U:i<xs.length:=a_
   have hq:h.get q=some (.cells [.chan c] 169):=Av.at x iE y L;have W:c<h.next:=aM lc x.next
   have ed:xs.drop i=xs[i]::xs.drop (i+1):=dH U;have E:Pu z (xs.take (i+1))=Pu z (xs.take i)++(if xs[i]=z then[]else[xs[i]]):=by
    rw[br U,Bdy,Bld];simp[Pu]
   rw[ed,List.cons_append]at hc;have bl:=WI z (xs.take i);rw[bW]at bl;simp only[O,aC,Aa,JE];rw[take_cons hq hc rfl];simp only[Aa,I,Ac,aB,aA,JD];have X:Av (fun j=>j=c) h0 (h.put c (.chan cap ((xs.drop (i+1)++Pu z (xs.take i)).map I))):=x.Ar (.inl rfl) W _;have A:HB (h.put c (.chan cap ((xs.drop (i+1)++Pu z (xs.take i)).map I))):=hb.put W _;have B:(h.put c (.chan cap ((xs.drop (i+1)++Pu z (xs.take i)).map I))).get c=some (.chan cap ((xs.drop (i+1)++Pu z (xs.take i)).map I)):=Ae _ _ _;have ab:(h.put c (.chan cap ((xs.drop (i+1)++Pu z (xs.take i)).map I))).next=h.next:=rfl
   generalize h.put c (.chan cap ((xs.drop (i+1)++Pu z (xs.take i)).map I))=h2 at X A B ab⊢;have g3:h2.get b3=some (.cells [I z] 3):=Av.at X iE J aa;have C:Ue (Ag TT disp K e false) (Ag TT disp K e true) (.func 169 [] [.ptr b3 0]) [.int .i64 xs[i]] h2=some (.bool (decide (¬xs[i]=z)),h2):=by
    show Ag TT disp K e false 169 [.int .i64 xs[i],.ptr b3 0] h2=_;rw[Aql H he];simp only[IQ,Cy g3 rfl,Aa,I,Ac]
   rw[C,Au];by_cases Y:xs[i]=z
   ·rw[aI Y,dP]at E
    simp only[Y,aB,aA,Aa,Ac,O1];rw[Ch (n:=(i:Int)-(Pu z (xs.take i)).length+1),Ch (n:=(i:Int)+1)];have:=ih (i+1) h2 a_ a_ (by rw[E];exact B) X A;rw[E]at this;have e3:(i:Int)-(Pu z (xs.take i)).length+1=((i+1:Nat):Int)-(Pu z (xs.take i)).length:=a_
    rw[e3];exact this
   ·rw[aG Y]at E
    simp only[Y,aQ,aC,Aa,Ac,JC];have ad:h2.get q=some (.cells [.chan c] 169):=Av.at X iE y L;rw[show EV.int .i64 xs[i]=I xs[i]from rfl,AA ad B xs[i] (by rw[aF,bA];omega),Au];simp only[O1,Ac];rw[Ch (n:=(i:Int)+1)];have:=ih (i+1) (h2.put c (.chan cap ((xs.drop (i+1)++Pu z (xs.take i)++[xs[i]]).map I))) a_ a_ (by rw[E,<-bZ];exact Ae _ _ _) (X.Ar (.inl rfl) a_ _) (A.put a_ _);rw[E,aF]at this;have e3:(i:Int)-(Pu z (xs.take i)).length=((i+1:Nat):Int)-((Pu z (xs.take i)).length+[xs[i]].length:Nat):=by simp;omega
    rw[e3];exact this
  ·have:i=xs.length:=a_
   subst this;rw[List.drop_length,cU,bY]at hc;rw[bY];simp only[O,aA,Aa,Uv];exact .ret ⟨rfl,hc,x,hb⟩
theorem Bp5{p:Nat}{q c:Nat->Nat}{g:Gm}(P:Fi h p ql n q c g ps)(hb:HB h)(Z:Tc n g ps){d:Nat}(hd:4<=d)(z:Int)(hz : -9223372036854775808<=z/\z<=9223372036854775807):
 Ok (Ag TT disp K d false 130 [.ptr p 0,I z] h) fun v h'=>(∃e,v=I e)/\Av (nA n c) h h'/\HB h'/\Fi h' p ql n q c g (if Bq g z<0 then ps else upd ps (Bq g z).toNat (Pu z (ps (Bq g z).toNat)))/\Tc n g (if Bq g z<0 then ps else upd ps (Bq g z).toNat (Pu z (ps (Bq g z).toNat))):=by
 obtain⟨e,rfl⟩:∃k,d=k+2:=⟨d-2,a_⟩;obtain⟨b1,b2,b3⟩:=Z.bd;rw[Ath H a_];simp only[IL,I,Aa];obtain⟨h1,e_,X,Y,n1⟩:=nW h (.cells [.int .i64 z] 3);rw[e_];have B:=X.hb hb;have P1:=P.ext fun i o g=>X.at hb g
 have lp:=B _ _ P1.G3;have l3:=B _ _ Y;simp only[Aa,As,Cq lp,Cq l3,P1.pU,Cy Y rfl];refine Ok.bE (J8 Z.sm z hz _) (fun _ _ p=>p.2) ?_;rintro _ _ h2 ⟨rfl,_⟩ _ W;have C:=W.hb B;have A:=P1.ext fun i o g=>W.at B g
 have J:=X.trans W;simp only[I,Ac];rcases I8 Z.sm z with ab|⟨d0,d1,d2,d3,d4⟩
 ·rw[ab]
  simp only[show(-1:Int)<0 from c_,aC,Aa,Ac,bK,Rz];exact .ret ⟨⟨15,rfl⟩,Ext.to J,C,A,Z⟩
 ·have L:¬Bq g z<0:=a_
  simp only[L,aA,Aa,Ac,ak,A.list];generalize au:Bq g z=dm at d0 d1 L;obtain⟨dn,rfl⟩:=av d0;have f:dn<n:=a_
  rw[A.rowAt.ix f];simp only[A.oP f,bD];rw[Aq3 H a_];simp only[JF,dr];rw[A.len f,Au];have O:=A.chan _ f;have:=Bja (K:=K) H hK (e:=e) a_ (z:=z) (xs:=ps dn) (A.que _ f) ⟨_,O⟩ (W.at B Y) (Z.cap _ f) a_ C K 0 h2 (by have:=Z.cap _ f;omega) a_ (by rw[dE,List.take_zero,show Pu z [] = []from rfl,dP];exact O) (Av.refl _) C;refine Ok.Am (P:=fun v h'=>v=I (((ps dn).length:Int)-(Pu z (ps dn)).length)/\h'.get (c dn)=some (.chan g.Z.toNat ((Pu z (ps dn)).map I))/\Av (fun j=>j=c dn) h2 h'/\HB h') this ?_;rintro _ h3 ⟨rfl,ae,x3,U⟩;simp only[Ac,I];have ch:Av (nA n c) h h3:=(Ext.to J).trans (x3.mono fun i hi=>⟨dn,f,hi⟩);have P3:Fi h3 p ql n q c g (upd ps dn (Pu z (ps dn))):=by
   have ne:∀b o,h2.get b=some o->AD o->h3.get b=some o:=fun b o gb ho=>Av.at x3 C gb fun e=>A.wk gb ho ⟨dn,f,e⟩
   refine⟨A.pos,ne _ _ A.G3 trivial,ne _ _ A.row trivial,fun e he=>ne _ _ (A.que e he) trivial,fun e he=>?_,A.inj⟩;unfold upd;by_cases E:e=dn
   ·subst E;rw[aI rfl];exact ae
   ·rw[aG E];exact Av.at x3 C (A.chan e he) fun y=>E (A.inj _ _ he f y)
  have Z3:Tc n g (upd ps dn (Pu z (ps dn))):=Z.upd (bQ (WI _ _) (Z.cap _ f));by_cases h0:((ps dn).length:Int)-(Pu z (ps dn)).length=0
  ·simp only[h0,aC,Rz,Aa]
   exact .ret ⟨⟨15,rfl⟩,ch,U,P3,Z3⟩
  ·simp only[h0,aA,Rz,Aa,IK]
   exact .ret ⟨⟨0,rfl⟩,ch,U,P3,Z3⟩
end
theorem vV(ps:Nat->List Int)(b:Int):∀n,(Ek ps b n = -1/\∀d:Nat,d<n->(d:Int)=b)\/(0<=Ek ps b n/\Ek ps b n<n/\¬Ek ps b n=b/\∀d:Nat,d<n->(d:Int)=b\/(ps d).length<=(ps (Ek ps b n).toNat).length)
 | 0=>.inl ⟨rfl,fun d hd=>absurd hd (cC _)⟩
 | n+1=>by
  have B:=vV ps b n;rw[z7];unfold tL;rcases B with⟨f,j⟩|⟨f,j,C,A⟩
  ·by_cases hb:(n:Int)=b
   ·rw[aG (fun x=>x.1 hb)]
    exact .inl ⟨f,fun d hd=>by rcases b9.1 hd with h|h;exact j d h;subst h;exact hb⟩
   ·rw[aI ⟨hb,.inl a_⟩]
    refine .inr ⟨a_,a_,hb,fun d hd=>?_⟩;rcases b9.1 hd with h|h
    ·exact .inl (j d h)
    ·subst h;exact .inr (by simp)
  ·by_cases hc:¬(n:Int)=b/\(Ek ps b n<0\/(ps (Ek ps b n).toNat).length<(ps n).length)
   ·rw[aI hc]
    refine .inr ⟨a_,a_,hc.1,fun d hd=>?_⟩;rcases b9.1 hd with h|h
    ·rcases A d h with y|y
     ·exact .inl y
     ·refine .inr ?_
      rcases hc.2 with z|z
      ·omega
      ·simp only[bD];omega
    ·subst h;exact .inr (by simp)
   ·rw[aG hc]
    refine .inr ⟨f,a_,C,fun d hd=>?_⟩;rcases b9.1 hd with h|h
    ·exact A d h
    ·subst h
     by_cases hb:(d:Int)=b
     ·exact .inl hb
     ·exact .inr (by have:¬(ps (Ek ps b d).toNat).length<(ps d).length:=fun y=>hc ⟨hb,.inr y⟩;omega)
theorem WJ{a:Nat}:∀n,(∀d,d<n->d=a\/ps d = [])->Oo ps n<=(ps a).length
 | 0,_=>by unfold Oo;simp
 | n+1,h=>by
  rw[Jv];rcases h n (aN _)with e|e
  ·subst e
   have:Oo ps n=0:=by
    have:∀k,k<=n->Oo ps k=0:=by
     intro k j;induction k with
     | zero=>rfl
     | succ k f=>
      rw[Jv,f a_];rcases h k a_ with e|e
      ·omega
      ·rw[e];rfl
    exact this n (aE _)
   omega
  ·rw[e];have:=WJ (a:=a) n fun d hd=>h d (Nat.lt_succ_of_lt hd);simp;omega
theorem WK(h:F2 ps n≠0)(hp:0<=F2 ps n):∃a b:Nat,Ek ps (-1) n=a/\Ek ps a n=b/\a<n/\b<n/\a≠b/\ps a≠[]/\ps b≠[]:=by
 have f:0<F2 ps n:=a_
 unfold F2 at f;rw[Int.lt_min]at f;obtain⟨p1,O⟩:=f;rcases vV ps (-1) n with⟨U,C⟩|⟨U,C,_,W⟩
 ·have:n=0:=by
   cases n with
   | zero=>rfl
   | succ n=>have:=C 0 a_;omega
  subst this;unfold Oo at p1;simp at p1
 ·obtain⟨a,X⟩:=av U
  rw[X]at C W O;have E:a<n:=a_
  have e1:k_ ps n a=(ps a).length:=by unfold k_;rw[aI a_];rfl
  rw[e1]at O;have hex:∃d,d<n/\d≠a/\ps d≠[]:=by
   apply eA;intro J;have:=WJ (ps:=ps) (a:=a) n fun d hd=>by
    by_cases A:d=a
    ·exact .inl A
    ·refine .inr (eA fun j=>J ⟨d,hd,A,j⟩)
   omega
  obtain⟨d,hd,A,j⟩:=hex;have L:ps a≠[]:=fun e=>by
   rcases W d hd with y|y
   ·omega
   ·rw[bD,e]at y;exact j (cO.1 (by simpa using y))
  rcases vV ps a n with⟨b1,b2⟩|⟨b1,b2,b3,b4⟩
  ·have:=b2 d hd;omega
  ·obtain⟨b,B⟩:=av b1
   rw[B]at b2 b3 b4;refine⟨a,b,X,B,E,a_,a_,L,fun e=>?_⟩;rcases b4 d hd with y|y
   ·omega
   ·rw[bD,e]at y;exact j (cO.1 (by simpa using y))
theorem WL:0<=F2 ps n:=by
 unfold F2;have:k_ ps n (Ek ps (-1) n)<=Oo ps n:=by
  unfold k_;split
  next h=>
   have:∀m d,d<m->(ps d).length<=Oo ps m:=by
    intro m;induction m with
    | zero=>intro d hd;omega
    | succ m f=>
     intro d hd;rw[Jv];rcases b9.1 hd with h|h
     ·have:=f d h;omega
     ·subst h;omega
   exact this n _ a_
  ·omega
 omega
section
variable{p:Nat}{q c:Nat->Nat}{g:Gm}(P:Fi h p ql n q c g ps)(hb:HB h)(Z:Tc n g ps)(hK:5000<K)
include P hb Z hK
theorem Bql:Ok (Yl K (.ptr p 0) h) fun v h'=>Av (nA n c) h h'/\HB h'/\((F2 ps n=0/\v=.tuple [I 0,I 0,I 15]/\Fi h' p ql n q c g ps) \/
 ∃(a b:Nat) (x y:Int) (r s:List Int),¬F2 ps n=0/\Ek ps (-1) n=a/\Ek ps a n=b/\a<n/\b<n/\a≠b/\ps a=x::r/\ps b=y::s/\v=.tuple [I x,I y,I 0]/\Fi h' p ql n q c g (upd (upd ps a r) b s)/\Tc n g (upd (upd ps a r) b s)):=by
 obtain⟨b1,b2,b3⟩:=Z.bd;simp only[Yl,dr];refine(EE P hb Z.small).Am ?_;rintro _ h1 ⟨rfl,C⟩;have f:=C.hb hb;have E:=P.ext fun i o g=>C.at hb g
 simp only[I,Ac];by_cases hp:F2 ps n=0
 ·simp only[hp,aC,Aa]
  exact .ret ⟨Ext.to C,f,.inl ⟨trivial,rfl,E⟩⟩
 ·simp only[hp,aA,Aa,KT]
  obtain⟨a,b,ha,A,J,L,B,O,iE⟩:=WK hp WL;refine(z' E f a_ a_ (-1)).Am ?_;rintro _ h2 ⟨rfl,U⟩;have j:=U.hb f;have P2:=E.ext fun i o g=>U.at f g
  rw[ha];refine(z' P2 j a_ a_ a).Am ?_;rintro _ h3 ⟨rfl,W⟩;have X:=W.hb j;have P3:=P2.ext fun i o g=>W.at j g
  rw[A];refine(xm P3 X Z hK a).Am ?_;rintro _ h4 ⟨c4,Y,x,e,f_,rfl,P4,Z4,hh⟩;have hx:e=0/\∃r,ps a=x::r/\f_=upd ps a r:=by
   rcases hh with⟨y,_⟩|⟨_,_,y,_⟩|⟨_,_,y,z⟩
   ·omega
   ·rw[bD]at y;exact absurd y O
   ·rw[bD]at z;exact⟨y,z⟩
  obtain⟨rfl,r,ab,rfl⟩:=hx;simp only[Aa];refine(xm P4 Y Z4 hK b).Am ?_;rintro _ h5 ⟨c5,ad,y,e,f_,rfl,P5,Z5,hh⟩;have eb:upd ps a r b=ps b:=by unfold upd;rw[aG (cR B)]
  have hy:e=0/\∃s,ps b=y::s/\f_=upd (upd ps a r) b s:=by
   rcases hh with⟨w,_⟩|⟨_,_,w,_⟩|⟨_,_,w,z⟩
   ·omega
   ·rw[bD,eb]at w;exact absurd w iE
   ·rw[bD,eb]at z;exact⟨w,z⟩
  obtain⟨rfl,s,ae,rfl⟩:=hy;simp only[Aa,I,Ac,aB,aA,KS];refine .ret ⟨(Ext.to (C.trans (U.trans W))).trans (c4.trans c5),ad,.inr ⟨a,b,x,y,r,s,not_false,rfl,A,J,L,B,ab,ae,rfl,P5,Z5⟩⟩
end
end
def Le(st:Nat):Int:=if st=4 then 32 else if st=3 then 30 else 0
theorem AE{z q:Nat}{size:Int}{Z:Zn}(f:Fj h z q size Z):Ei K (.ptr z 0) h=some (I Z.st,h):=by
 obtain⟨s,g,_⟩:=f.Ai;simp only[Ei,Aa,Cy g rfl]
theorem Bak{z q:Nat}{size:Int}{Z:Zn}(f:Fj h z q size Z):Ig K (.ptr z 0) h=some (I Z.l.length,h):=by
 obtain⟨s,g,r⟩:=f.Ai;simp only[Ig,Aa,Cy g rfl,r.Ip]
theorem Xp{z q:Nat}{size:Int}{Z:Zn}(j:Fj h z q size Z):Ee K (.ptr z 0) h=some (I (Le Z.st),h):=by
 obtain⟨s,g,_⟩:=j.Ai;simp only[Ee,Aa,Cy g rfl,I,Ac];unfold Le;by_cases h4:Z.st=4
 ·have:decide ((Z.st:Int)=4)=true:=by simp[h4]
  rw[this,aI h4];simp only[Aa]
 ·have a:decide ((Z.st:Int)=4)=false:=by simp;omega
  rw[a,aG h4];simp only[Aa,Ac];by_cases f:Z.st=3
  ·have:decide ((Z.st:Int)=3)=true:=by simp[f]
   rw[this,aI f];simp only[Aa]
  ·have b:decide ((Z.st:Int)=3)=false:=by simp;omega
   rw[b,aG f];simp only[Aa,Ac,Nz]
theorem Fj.ext{z q:Nat}{size:Int}{Z:Zn}(d:Fj h z q size Z)(g:∀i o,h.get i=some o->h'.get i=some o):Fj h' z q size Z:=by
 obtain⟨s,a,b⟩:=d.Ai;exact⟨⟨s,g _ _ a,b.frame fun f=>by rw[g _ _ (b.block f),b.block f]⟩,d.wf⟩
def Zn.app(Z:Zn)(size:Nat)(x:List EV):Zn:=⟨Z.l++[x],Z.safe,if Z.l.length+1=size then 2 else 1,Z.fin⟩
theorem A2g{z q size:Nat}{Z:Zn}(zz:Fj h z q size Z)(hb:HB h)(a2:Z.st<2)(W:Z.l.length<=64)(Y:x.length=64):
 Ok (Ed K (.ptr z 0) (.agg x) h) fun v h'=>v=.tuple [I Z.l.length,I 0]/\(∃q',Fj h' z q' size (Z.app size x)/\h.next<=q')/\Av (fun i=>i=z\/(0<Z.l.length/\i=q)) h h'/\HB h':=by
 obtain⟨s,g,r⟩:=zz.Ai;simp only[Ed,Aa];obtain⟨h1,e_,x1,g3,n1⟩:=nW h (.cells x 29);rw[e_];have j:=x1.hb hb;have z1:Fj h1 z q size Z:=zz.ext fun i o g=>x1.at hb g
 have g1:=x1.at hb g;have r1:Ce h1 s q 29 64 Z.l.length Z.l.flatten:=r.frame fun W=>by rw[x1.at hb (r.block W),r.block W]
 rw[Xp z1,Au];have hf:Le Z.st=0:=by unfold Le;rw[aG a_,aG a_]
 rw[hf];have h2:¬(Z.st:Int)=2:=a_
 simp only[Ac,I,aB,aA,Aa,Ib,Cy g1 rfl,h2,Oe];have lz:=j _ _ g1;have l3:=j _ _ g3;simp only[Aa,As,Cq lz,Cq l3,Cy g1 rfl,Cz g3 rfl,Ak Y];rw[Xb (z:=List.replicate 64 (.int .u8 0)) rfl (by simp) (by exact Y),Au];obtain⟨f,e_,x2,gx,n2⟩:=nW h1 (.cells (EV.cells (.agg x)) 29);rw[e_];have C:=x2.hb j;have g2:=x2.at j g1;have r2:Ce f.lift s q 29 64 Z.l.length Z.l.flatten:=(r1.frame (h':=f) fun W=>by rw[x2.at j (r1.block W),r1.block W]).frame fun _=>Bx _ _
 obtain⟨h3,e3,r3,n3,c3⟩:=qp (x:=.slice h1.next 0 1 1 false) (n:=1) r2 rfl a_ a_ a_ (Y3 (b:=h1.next) (by rw[Bx];exact gx) Y) (by rw[Y]);refine Ok.bC (S:=fun i=>0<Z.l.length/\i=q) (P:=fun v h'=>v=.slice f.lift.next 0 (Z.l.length+1) (Z.l.length+1) true/\h'=h3) ⟨_,_,e3,rfl,rfl⟩ (fun _ _ p=>by rw[p.2];exact c3) ?_;rintro _ _ h4 s' ⟨rfl,rfl⟩ sm x4 ao;have ad:=x4.hb C;rw[sA]at r3 n3;rw[sA];have aq:¬(0<Z.l.length/\z=q):=fun y=>by
  have:=r1.block y.1;exact Ba g1 this (by simp) y.2
 have g4:h4.get z=some (.cells [s,I size,I Z.safe,I Z.st,.bool Z.fin] 146):=Av.at x4 C g2 aq;have r4:Ce h4 (.slice f.next 0 (Z.l.length+1) (Z.l.length+1) true) f.next 29 64 (Z.l.length+1) (Z.l.flatten++x):=r3.frame fun _=>sm.get _
 have A:z<h4.next:=ad _ _ g4
 try simp only[Aa]
 rw[Hg (by rcases ao with rfl|⟨w,rfl,_⟩<;>kernel_rfl)];refine Ok.hM g4 rfl rfl (by show 0<5;decide) ?_;refine Ok.hM (Ae _ _ _) rfl rfl (by show 3<5;decide) ?_;simp only[List.set,Aa];have E:f.next≠z:=by have:=C _ _ g2;omega
 have J:z<((h4.put z (.cells [EV.slice f.next 0 (Z.l.length+1) (Z.l.length+1) true,I size,I Z.safe,I Z.st,.bool Z.fin] 146)).put z (.cells [EV.slice f.next 0 (Z.l.length+1) (Z.l.length+1) true,I size,I Z.safe,.int .i64 1,.bool Z.fin] 146)).next:=A
 have hq:h.next<=f.next:=a_
 have r5:∀o1 B,Ce ((h4.put z o1).put z B) (.slice f.next 0 (Z.l.length+1) (Z.l.length+1) true) f.next 29 64 (Z.l.length+1) (Z.l.flatten++x):=fun o1 B=>r4.frame fun _=>by rw[Af _ (cR E),Af _ (cR E)]
 have ch:∀o1 B,Av (fun i=>i=z\/(0<Z.l.length/\i=q)) h ((h4.put z o1).put z B):=fun o1 B=>((((Ext.to (x1.trans x2)).trans (x4.mono fun i hi=>.inr hi)).Ar (.inl (.inl rfl)) A _).Ar (.inl (.inl rfl)) A _)
 have au:∀o1 B,HB ((h4.put z o1).put z B):=fun o1 B=>(ad.put A _).put A _
 have gz:((h4.put z (.cells [EV.slice f.next 0 (Z.l.length+1) (Z.l.length+1) true,I size,I Z.safe,I Z.st,.bool Z.fin] 146)).put z (.cells [EV.slice f.next 0 (Z.l.length+1) (Z.l.length+1) true,I size,I Z.safe,.int .i64 1,.bool Z.fin] 146)).get z=some (.cells [EV.slice f.next 0 (Z.l.length+1) (Z.l.length+1) true,I size,I Z.safe,.int .i64 1,.bool Z.fin] 146):=Ae _ _ _;have L:=r5 (.cells [EV.slice f.next 0 (Z.l.length+1) (Z.l.length+1) true,I size,I Z.safe,I Z.st,.bool Z.fin] 146) (.cells [EV.slice f.next 0 (Z.l.length+1) (Z.l.length+1) true,I size,I Z.safe,.int .i64 1,.bool Z.fin] 146);have O:=ch (.cells [EV.slice f.next 0 (Z.l.length+1) (Z.l.length+1) true,I size,I Z.safe,I Z.st,.bool Z.fin] 146) (.cells [EV.slice f.next 0 (Z.l.length+1) (Z.l.length+1) true,I size,I Z.safe,.int .i64 1,.bool Z.fin] 146);have U:=au (.cells [EV.slice f.next 0 (Z.l.length+1) (Z.l.length+1) true,I size,I Z.safe,I Z.st,.bool Z.fin] 146) (.cells [EV.slice f.next 0 (Z.l.length+1) (Z.l.length+1) true,I size,I Z.safe,.int .i64 1,.bool Z.fin] 146);generalize (h4.put z (.cells [EV.slice f.next 0 (Z.l.length+1) (Z.l.length+1) true,I size,I Z.safe,I Z.st,.bool Z.fin] 146)).put z (.cells [EV.slice f.next 0 (Z.l.length+1) (Z.l.length+1) true,I size,I Z.safe,.int .i64 1,.bool Z.fin] 146)=h5 at gz L O U J⊢;simp only[Cy gz rfl,Aa,I,Ac];have fin:∀(st:Nat) (X:Ab),st=(Z.app size x).st->X.get z=some (.cells [EV.slice f.next 0 (Z.l.length+1) (Z.l.length+1) true,I size,I Z.safe,I st,.bool Z.fin] 146)->Ce X (.slice f.next 0 (Z.l.length+1) (Z.l.length+1) true) f.next 29 64 (Z.l.length+1) (Z.l.flatten++x)->Av (fun i=>i=z\/(0<Z.l.length/\i=q)) h X->HB X ->
  Ok (Im K (.ptr z 0) X) fun v h'=>v=.tuple [I Z.l.length,I 0]/\(∃q',Fj h' z q' size (Z.app size x)/\h.next<=q')/\Av (fun i=>i=z\/(0<Z.l.length/\i=q)) h h'/\HB h':=by
  rintro st X rfl g6 r6 c6 aw;simp only[Im,Aa,Cy g6 rfl,I,Ac];rw[Ch,show((Z.l.length+1:Nat):Int)-1=(Z.l.length:Int) from a_];refine .ret ⟨rfl,⟨f.next,⟨⟨_,g6,?_⟩,fun y hy=>by
   rcases bN.1 hy with hy|hy
   ·exact zz.wf y hy
   ·rw[aP.1 hy];exact Y⟩,hq⟩,c6,aw⟩
  have e1:(Z.app size x).l.length=Z.l.length+1:=by simp[Zn.app]
  have e2:(Z.app size x).l.flatten=Z.l.flatten++x:=by simp[Zn.app]
  rw[e1,e2];exact r6
 by_cases hs:Z.l.length+1=size
 ·have:((Z.l.length+1:Nat):Int)=(size:Int):=a_
  simp only[this,aC,Aa];refine Ok.hM gz rfl rfl (by show 3<5;decide) ?_;refine fin 2 _ (by simp[Zn.app,hs]) (Ae _ _ _) (L.frame fun _=>Af _ (cR E)) (O.Ar (.inl (.inl rfl)) J _) (U.put J _)
 ·have:¬((Z.l.length+1:Nat):Int)=(size:Int):=a_
  simp only[this,aA,Aa];exact fin 1 _ (by simp[Zn.app,hs]) gz L O U
theorem A00{z q:Nat}{size:Int}{Z:Zn}(y:Fj h z q size Z)(hb:HB h)(A:2<=Z.st)(h4:Z.st<=4)(x:List EV):
 Ok (Ed K (.ptr z 0) (.agg x) h) fun v h'=>v=.tuple [I 0,I (if Z.st=2 then 17 else Le Z.st)]/\Ext h h':=by
 simp only[Ed,Aa];obtain⟨h1,B,f,_,_⟩:=nW h (.cells x 29);rw[B];have z1:Fj h1 z q size Z:=y.ext fun i o g=>f.at hb g
 rw[Xp z1,Au];obtain⟨s,g,_⟩:=z1.Ai;by_cases h2:Z.st=2
 ·have hf:Le Z.st=0:=by unfold Le;rw[aG a_,aG a_]
  have j:(Z.st:Int)=2:=a_
  rw[hf];simp only[Ac,I,aB,aA,Aa,Ib,Cy g rfl,j,aC,h2,bK];exact .ret ⟨rfl,f⟩
 ·have hf:¬Le Z.st=0:=by
   unfold Le;split
   ·decide
   ·split
    ·decide
    ·omega
  simp only[Ac,I,hf,aQ,aC,Aa,h2,ak];exact .ret ⟨rfl,f⟩
theorem Em{l:List EV}(hg:h.get i=some (.cells l t))(hs:TT.size t=some n)(f:TT.agg t=some true)(j:l.length=n):J5 TT [.c (.ptr i 0) t,.v v] h=some (.tuple [.agg l,v],h):=by
 have y:Jo h i 0 n=some l:=by
  unfold Jo;rw[hg];simp only;rw[<-nX];exact Ak j
 unfold J5;simp only[kB,hs,y,f]
theorem kR:TT.size 29=some 64/\TT.agg 29=some true:=⟨by kernel_rfl,by kernel_rfl⟩
def Uu:List EV:=List.replicate 64 (.int .u8 0)
theorem K8:Uu.length=64:=by simp[Uu]
theorem Bmg:∀(l:List (List EV)) (j:Nat),(∀x∈l,x.length=64)->j<l.length->∃x,l[j]? = some x/\x.length=64/\Ou l.flatten (j*64) 64=some x:=by
 intro l;induction l with
 | nil=>intro j _ hj;cases hj
 | cons y l B=>
  intro j hw hj;have J:=hw y (aW ..);cases j with
  | zero=>
   refine⟨y,rfl,J,?_⟩;rw[cK,F9 (by simp[J]),gX,dE,fM a_,bS a_]
  | succ j=>
   obtain⟨x,e1,e2,e3⟩:=B j (fun x f=>hw x (aT _ f)) (by simpa using hj);refine⟨x,by simpa using e1,e2,?_⟩;have L:j*64+64<=l.flatten.length:=by
    rcases dQ l.flatten.length (j*64+64)with C|E
    ·rw[nX]at e3
     exfalso;have:(l.flatten.drop (j*64)).length<64:=by rw[bA];omega
     revert e3;have hlen:l.flatten.length=l.length*64:=by
      clear B hj e1 C this;have A:∀x∈l,x.length=64:=fun x f=>hw x (aT _ f)
      clear hw;induction l with
      | nil=>rfl
      | cons a l B=>rw[cK,aF,B fun x f=>A x (aT _ f),A a (aW ..),bJ];omega
     have:j+1<=l.length:=by simp at hj;omega
     omega
    ·exact E
   rw[F9 L]at e3;rw[cK,F9 (by rw[aF];omega),show(j+1)*64=y.length+j*64 from a_,List.drop_append,<-e3,dc a_,cU];simp
def jL(Z:Zn)(off:Int):List EV × Int:=if Z.st=4 then(Uu,32)else if 0<=off/\off<Z.l.length then((Z.l[off.toNat]?).getD Uu,0)else(Uu,31)
theorem Bjr {Z:Zn}(wf:∀x∈Z.l,x.length=64)(off:Int):(jL Z off).1.length=64:=by
 unfold jL;split
 ·exact K8
 ·split
  next hc=>
   have:off.toNat<Z.l.length:=a_
   rw[aD this];exact wf _ (bI _)
  ·exact K8
theorem A7h{z q:Nat}{size:Int}{Z:Zn}(L:Fj h z q size Z)(hb:HB h)(off:Int):
 Ok (H2 K (.ptr z 0) (I off) h) fun v h'=>v=.tuple [.agg (jL Z off).1,I (jL Z off).2]/\Ext h h':=by
 simp only[H2,Aa];have y:Ext h ((h.new (.cells (List.replicate 64 (.int .u8 0)) 29)).new (.cells (List.replicate 64 (.int .u8 0)) 29)):=(Av.new _ _).Db _;have A:((h.new (.cells (List.replicate 64 (.int .u8 0)) 29)).new (.cells (List.replicate 64 (.int .u8 0)) 29)).get h.next=some (.cells Uu 29):=by
  rw[Az _ (aN _)];exact Ad _ _
 have f:((h.new (.cells (List.replicate 64 (.int .u8 0)) 29)).new (.cells (List.replicate 64 (.int .u8 0)) 29)).get (h.new (.cells (List.replicate 64 (.int .u8 0)) 29)).next=some (.cells Uu 29):=Ad _ _
 generalize U:(h.new (.cells (List.replicate 64 (.int .u8 0)) 29)).next=X at f⊢
 generalize (h.new (.cells (List.replicate 64 (.int .u8 0)) 29)).new (.cells (List.replicate 64 (.int .u8 0)) 29)=h1 at y A f⊢;have B:=y.hb hb;have z1:Fj h1 z q size Z:=L.ext fun i o g=>y.at hb g
 obtain⟨s,g,r⟩:=z1.Ai;have W:=B _ _ A;have fin:∀(l:List EV) (e:Int),l.length=64->(l,e)=jL Z off->Ok (hQ 64 (.ptr h.next 0) (.agg l) h1 fun h=>J5 TT [.c (.ptr h.next 0) 29,.v (I e)] h) (fun v h'=>True)->True:=fun _ _ _ _ _=>trivial
 clear fin;have fin:∀(l:List EV) (e:Int) (C:Ab->R),(∀h',C h'=J5 TT [.c (.ptr h.next 0) 29,.v (I e)] h')->l.length=64->(l,e)=jL Z off->Ok (hQ 64 (.ptr h.next 0) (.agg l) h1 C) fun v h'=>v=.tuple [.agg (jL Z off).1,I (jL Z off).2]/\Ext h h':=by
  intro l e C E J he;refine Ok.st l A rfl (by rw[show EV.cells (.agg l)=l from rfl,Bg,J]) (Bo (by rw[K8];exact J.symm)) ?_;rw[E,Em (Ae _ _ _) kR.1 kR.2 J,<-he];exact .ret ⟨rfl,y.Ar (.inr (aE _)) W _⟩
 simp only[Cy g rfl,Aa,I,Ac,Cz f rfl,Ak K8];by_cases h4:Z.st=4
 ·rw[show decide ((Z.st:Int)=4)=true by simp[h4]]
  simp only[Aa];exact fin Uu 32 _ (fun _=>rfl) K8 (by unfold jL;rw[aI h4])
 ·rw[show decide ((Z.st:Int)=4)=false by simp;omega]
  simp only[Aa];by_cases h0:off<0
  ·simp only[h0,aC,Aa,Jx,Cz f rfl,Ak K8]
   exact fin Uu 31 _ (fun _=>rfl) K8 (by unfold jL;rw[aG h4,aG a_])
  ·simp only[h0,aA,Aa,r.Ip,Ac,Jx]
   by_cases O:(Z.l.length:Int)<=off
   ·simp only[O,aC,Aa,Cz f rfl,Ak K8]
    exact fin Uu 31 _ (fun _=>rfl) K8 (by unfold jL;rw[aG h4,aG a_])
   ·simp only[O,aA,Aa,Pn,Cy g rfl]
    have hj:off.toNat<Z.l.length:=a_
    obtain⟨j,rfl⟩:∃j:Nat,off=j:=⟨off.toNat,a_⟩;rw[show(j:Int).toNat=j from rfl]at hj;obtain⟨x,f1,f2,f3⟩:=Bmg Z.l j L.wf hj;rw[r.ix hj];simp only[Cz (r.block a_) rfl,f3,Aa];refine fin x 0 _ (fun _=>rfl) f2 ?_;unfold jL;rw[aG h4,aI a_,show(j:Int).toNat=j from rfl,f1];rfl
theorem Fj.put{z q:Nat}{size:Int}{Z:Zn}(f:Fj h z q size Z){s:EV}(g:h.get z=some (.cells [s,I size,I Z.safe,I Z.st,.bool Z.fin] 146))(safe st:Nat)(fin:Bool):
 Fj (h.put z (.cells [s,I size,I safe,I st,.bool fin] 146)) z q size ⟨Z.l,safe,st,fin⟩:=by
 obtain⟨s',j,r⟩:=f.Ai;rw[g]at j;have:s=s':=by
  have:=gN j;injection this with a _;exact(List.cons.inj a).1
 subst this;refine⟨⟨s,Ae _ _ _,r.frame fun y=>Af _ ?_⟩,f.wf⟩;exact Ba g (r.block y) (by simp)
def Zn.flush(Z:Zn):Zn:={ Z with safe:=Z.l.length }
theorem A3o{z q:Nat}{size:Int}{Z:Zn}(f:Fj h z q size Z)(hb:HB h):
 Ok (Ha K (.ptr z 0) h) fun v h'=>Fj h' z q size Z.flush/\Av (fun i=>i=z) h h'/\HB h':=by
 obtain⟨s,g,r⟩:=f.Ai;have j:=hb _ _ g;simp only[Ha,Aa,Cy g rfl,r.Ip];refine Ok.hM g rfl rfl (by show 2<5;decide) ?_;refine .ret ⟨?_,(Av.refl (S:=fun i=>i=z) h).Ar (.inl rfl) j _,hb.put j _⟩;exact f.put g Z.l.length Z.st Z.fin
def Zn.finish(Z:Zn):Zn:={ Z with st:=2,fin:=true }
theorem A1u{z q:Nat}{size:Int}{Z:Zn}(f:Fj h z q size Z)(hb:HB h):
 Ok (G2 K (.ptr z 0) h) fun v h'=>v=I (Le Z.st)/\Fj h' z q size (if Le Z.st=0 then Z.finish else Z)/\Av (fun i=>i=z) h h'/\HB h':=by
 obtain⟨s,g,r⟩:=f.Ai;have j:=hb _ _ g;simp only[G2,Xp f,Aa,I,Ac];by_cases hf:Le Z.st=0
 ·simp only[hf,aB,aA,Aa,bK,N2]
  refine Ok.hM g rfl rfl (by show 3<5;decide) ?_;refine Ok.hM (Ae _ _ _) rfl rfl (by show 4<5;decide) ?_;refine .ret ⟨rfl,?_,((Av.refl (S:=fun i=>i=z) h).Ar (.inl rfl) j _).Ar (.inl rfl) j _,(hb.put j _).put j _⟩;exact(f.put g Z.safe 2 Z.fin).put (Ae _ _ _) Z.safe 2 true
 ·simp only[hf,aQ,aC,Aa,ak]
  exact .ret ⟨rfl,f,Av.refl _,hb⟩
def Zn.fail(Z:Zn)(st:Nat):Zn:=if st=4\/st=3/\¬Z.st=4 then { Z with st:=st }else Z
theorem A6p{z q:Nat}{size:Int}{Z:Zn}(f:Fj h z q size Z)(hb:HB h)(st:Nat):
 Ok (H0 K (.ptr z 0) (I st) h) fun v h'=>Fj h' z q size (Z.fail st)/\Av (fun i=>i=z) h h'/\HB h':=by
 obtain⟨s,g,r⟩:=f.Ai;have j:=hb _ _ g;have yes:(st=4\/st=3/\¬Z.st=4)->Ok (hQ 1 (.ptr z 3) (I st) h fun h=>some (.tuple [],h)) fun v h'=>Fj h' z q size (Z.fail st)/\Av (fun i=>i=z) h h'/\HB h':=by
  intro hc;refine Ok.hM g rfl rfl (by show 3<5;decide) ?_;refine .ret ⟨?_,(Av.refl (S:=fun i=>i=z) h).Ar (.inl rfl) j _,hb.put j _⟩;unfold Zn.fail;rw[aI hc];exact f.put g Z.safe st Z.fin
 have no:¬(st=4\/st=3/\¬Z.st=4)->Ok (some (.tuple [],h)) fun v h'=>Fj h' z q size (Z.fail st)/\Av (fun i=>i=z) h h'/\HB h':=by
  intro hc;refine .ret ⟨?_,Av.refl _,hb⟩;unfold Zn.fail;rw[aG hc];exact f
 simp only[H0,I,Ac,Aa];by_cases a:st=4
 ·rw[show decide ((st:Int)=4)=true by simp[a]]
  simp only[Aa,Ac,Gs,E2,E4];exact yes (.inl a)
 ·rw[show decide ((st:Int)=4)=false by simp;omega]
  simp only[Aa,Ac];by_cases b:st=3
  ·rw[show decide ((st:Int)=3)=true by simp[b]]
   simp only[Aa,Ac,Gs,Cy g rfl,I];by_cases c:Z.st=4
   ·rw[show decide (¬(Z.st:Int)=4)=false by simp[c]]
    simp only[Aa,Ac,E2,E4];exact no a_
   ·rw[show decide (¬(Z.st:Int)=4)=true by simp;omega]
    simp only[Aa,Ac,E2,E4];exact yes (.inr ⟨b,c⟩)
  ·rw[show decide ((st:Int)=3)=false by simp;omega]
   simp only[Aa,Ac,Gs,E2,E4];exact no a_
theorem X9{b sz:Nat}{x:EV}{new:List EV}(j:lenOf x=some n)(f:n<=65536)(hc:Pm h sz n x=some new)(hs:new.length=n*sz)(q:Nat):
 Ok (Et e sz (.slice b 0 0 0 false) x h) fun v h'=>∃q',Ce h' v q' e sz n new/\Ext h h'/\(0<n->h.next<=q'):=by
 rcases eI n with rfl|hp
 ·have:new = []:=cO.1 a_
  subst this;refine⟨.slice b 0 0 0 false,h,?_,q,.empty _ _ _ _ _,Av.refl _,fun y=>a_⟩;unfold Et;simp only[j,Hf];rfl
 ·obtain⟨h',e1,r,B,c⟩:=qp (s:=.slice b 0 0 0 false) (q:=q) (e:=e) (.empty h b q e sz) j hp f (cS _) hc hs
  refine⟨_,h',e1,h.next,?_,c.mono fun i A=>absurd A.1 (bT _),fun _=>aE _⟩;rw[cU]at r;simpa only[bP]using r
section
def Bm(F:Nat->Prop)(h h':Ab):Nat->Prop:=fun i=>F i\/(h.next<=i/\i<h'.next)
theorem Av.grow(a:Av F h h1)(b:Av (Bm F h h1) h1 h2):Av F h h2:=
 a.then b fun i f j=>by
  rcases f with f|f
  ·exact f
  ·omega
theorem Bm.trans(a:h.next<=h1.next)(b:h1.next<=h2.next)(g:Bm (Bm F h h1) h1 h2 i):Bm F h h2 i:=by
 rcases g with(g|g)|g
 ·exact .inl g
 ·exact .inr ⟨g.1,a_⟩
 ·exact .inr ⟨a_,g.2⟩
theorem Bm.le(b:h1.next<=h2.next)(g:Bm F h h1 i):Bm F h h2 i:=by
 rcases g with g|g
 ·exact .inl g
 ·exact .inr ⟨g.1,a_⟩
structure Dv where
 n:Nat
 size:Nat
 op:Int
 cnt:Int
 down:Bool
 zs:Nat->Zn
def Be(l:List Nat):List EV:=l.map fun(b:Nat)=>EV.int .u8 (Int.ofNat b)
def U8(x:List EV):Prop:=∃l:List Nat,(∀b∈l,b<256)/\x=Be l
theorem U8.zs:U8 Uu:=⟨List.replicate 64 0,fun b hb=>by rw[bO hb];decide,by unfold Be Uu;rw[fP];rfl⟩
structure Zn.Wf(Z:Zn)(size:Nat):Prop where
 u8:∀x∈Z.l,U8 x
 st:Z.st<=4
 safe:Z.safe<=Z.l.length
 len:Z.l.length<=size
 room:Z.st<2->Z.l.length<size
structure Dv.Wf(D:Dv):Prop where
 size:D.size<=64
 n:D.n<=512
 zs:∀i,i<D.n->(D.zs i).Wf D.size
def A31(V zl n:Nat)(z q:Nat->Nat)(zs:Nat->Zn):Nat->Prop:=fun i=>i=V\/i=zl\/∃d,d<n/\(i=z d\/((zs d).l≠[]/\i=q d))
structure Hu(h:Ab)(V:Nat)(D:Dv)(F:Nat->Prop):Prop where
 wf:D.Wf
 lt:∀i,F i->i<h.next
 Ph:∃zl z q,Mf h V zl D.n z q D.size D.op D.cnt D.down D.zs/\∀i,A31 V zl D.n z q D.zs i->F i
theorem Hu.mono{D:Dv}(d:Hu h V D F)(s:∀i,F i->G i)(l:∀i,G i->i<h.next):Hu h V D G:=by
 obtain⟨zl,z,q,a,b⟩:=d.Ph;exact⟨d.wf,l,zl,z,q,a,fun i f=>s i (b i f)⟩
theorem Bm.lt(l:∀i,F i->i<h.next)(n:h.next<=h'.next):∀i,Bm F h h' i->i<h'.next:=fun i f=>by
 rcases f with f|f
 ·have:=l i f;omega
 ·exact f.2
theorem Hu.grow{D:Dv}(d:Hu h' V D F)(l:∀i,F i->i<h.next)(n:h.next<=h'.next):Hu h' V D (Bm F h h'):=
 d.mono (fun _=>.inl) (Bm.lt l n)
theorem pV {l:List (List EV)}:l≠[]↔0<l.length:=by rw[List.length_pos_iff]
theorem Mf.frame{z q:Nat->Nat}{size:Int}{Zs:Nat->Zn}(d:Mf h V zl n z q size op cnt down Zs)(e:∀i,A31 V zl n z q Zs i->h'.get i=h.get i):Mf h' V zl n z q size op cnt down Zs:=by
 refine⟨d.pos,by rw[e _ (.inl rfl)];exact d.dev,by rw[e _ (.inr (.inl rfl))];exact d.row,fun i f=>?_,d.A7f,d.A98⟩;obtain⟨s,a,b⟩:=(d.Ai i f).Ai;exact⟨⟨s,by rw[e _ (.inr (.inr ⟨i,f,.inl rfl⟩))];exact a,b.frame fun j=>e _ (.inr (.inr ⟨i,f,.inr ⟨pV.2 j,rfl⟩⟩))⟩,(d.Ai i f).wf⟩
theorem Hu.frame{D:Dv}(d:Hu h V D F)(n:h.next<=h'.next)(e:∀i,F i->h'.get i=h.get i):Hu h' V D F:=by
 obtain⟨zl,z,q,a,b⟩:=d.Ph;exact⟨d.wf,fun i f=>aM (d.lt i f) n,zl,z,q,a.frame fun i f=>e i (b i f),b⟩
theorem Hu.chg{D:Dv}{S:Nat->Prop}(d:Hu h V D F)(c:Av S h h')(n:∀i,F i->¬S i):Hu h' V D F:=
 d.frame c.next fun i f=>c.get i (d.lt i f) (n i f)
theorem Hu.ext{D:Dv}(d:Hu h V D F)(c:Ext h h'):Hu h' V D F:=d.chg c fun _ _=>id
theorem Mf.AF{z q:Nat->Nat}{size:Int}{Zs:Nat->Zn}(d:Mf h V zl n z q size op cnt down Zs)(j:Int)(f:Bool):
 Mf (h.put V (.cells [.slice zl 0 n n true,I size,I op,I j,.bool f] 104)) V zl n z q size op j f Zs:=by
 refine⟨d.pos,Ae _ _ _,?_,fun i y=>?_,d.A7f,d.A98⟩
 ·rw[Af _ (Ba d.dev d.row (by simp))];exact d.row
 ·obtain⟨s,a,b⟩:=(d.Ai i y).Ai
  refine⟨⟨s,?_,b.frame fun A=>Af _ (Ba d.dev (b.block A) (by simp))⟩,(d.Ai i y).wf⟩;rw[Af _ (Ba d.dev a (by simp))];exact a
def Hd(Zs:Nat->Zn)(d:Nat)(Z:Zn):Nat->Zn:=fun e=>if e=d then Z else Zs e
def mE(q:Nat->Nat)(d x:Nat):Nat->Nat:=fun e=>if e=d then x else q e
theorem Mf.WM{z q:Nat->Nat}{size:Int}{Zs:Nat->Zn}(d:Mf h V zl n z q size op cnt down Zs)(hb:HB h)(U:i<n){Z:Zn}
 (Y:Fj h' (z i) q' size Z) (c:Av (fun j=>j=z i\/((Zs i).l≠[]/\j=q i)) h h') (hq:Z.l≠[]->h.next<=q'\/(q'=q i/\(Zs i).l≠[])) :
 Mf h' V zl n z (mE q i q') size op cnt down (Hd Zs i Z):=by
 obtain⟨si,W,bi⟩:=(d.Ai i U).Ai;have nq:∀x o,h.get x=some o->(∀l,o≠.vec l 29 64)->¬((Zs i).l≠[]/\x=q i):=by
  rintro x o E B ⟨C,rfl⟩;rw[bi.block (pV.1 C)]at E;cases E;exact B _ rfl
 have F1:∀x o,h.get x=some o->x≠z i->(∀l,o≠.vec l 29 64)->h'.get x=some o:=fun x o E hn B=>by
  refine c.at hb E ?_;rintro(y|y)
  ·exact hn y
  ·exact nq x o E B y
 refine⟨d.pos,F1 _ _ d.dev (Ba d.dev W (by simp)) (by intros;simp),F1 _ _ d.row (Ba d.row W (by simp)) (by intros;simp),fun j hj=>?_,d.A7f,?_⟩
 ·by_cases f:j=i
  ·subst f;simp only[mE,Hd,bK];exact Y
  ·simp only[mE,Hd,f,ak]
   obtain⟨s,a,b⟩:=(d.Ai j hj).Ai;refine⟨⟨s,F1 _ _ a (fun e=>f (d.A7f j i hj U e)) (by intros;simp),b.frame fun C=>?_⟩,(d.Ai j hj).wf⟩;have X:=b.block C;refine c.get _ (hb _ _ X) ?_;rintro(y|⟨J,L⟩)
   ·exact Ba X W (by simp) y
   ·exact f (d.A98 j i hj U (pV.2 C) J L)
 ·intro j k hj O
  have lq:∀j,j<n->(Zs j).l≠[]->q j<h.next:=fun j hj C=>by
   obtain⟨s,a,b⟩:=(d.Ai j hj).Ai;exact hb _ _ (b.block (pV.1 C))
  by_cases f:j=i<;>by_cases A:k=i
  ·intros;omega
  ·subst f;simp only[mE,Hd,A,bK,ak]
   intro a b e;rcases hq a with y|⟨J,L⟩
   ·have:=lq k O b;omega
   ·exact absurd (d.A98 j k hj O L b (by rw[<-J];exact e)).symm A
  ·subst A;simp only[mE,Hd,f,bK,ak]
   intro a b e;rcases hq b with y|⟨J,L⟩
   ·have:=lq j hj a;omega
   ·exact absurd (d.A98 j k hj O a L (by rw[<-J];exact e)) f
  ·simp only[mE,Hd,f,A,ak]
   exact d.A98 j k hj O
def Dv.has(D:Dv)(i:Int):Bool:=decide (0<=i/\i<D.n)
def Dv.Fm(D:Dv)(i:Int):Int:=if D.down=true then 34 else if D.has i=false then 13 else 0
def Dv.tick(D:Dv):Dv:={ D with cnt:=Dl .i64 (D.cnt+1) }
def Dv.begin(D:Dv)(i:Int):Dv:=if D.Fm i=0 then D.tick else D
def Dv.set(D:Dv)(i:Nat)(Z:Zn):Dv:={ D with zs:=Hd D.zs i Z }
section
variable{z q:Nat->Nat}{size:Int}{Zs:Nat->Zn}(d:Mf h V zl n z q size op cnt down Zs)
include d
theorem Mf.list(k:EV->R):Iy (.ptr V 0) h k=k (.slice zl 0 n n true):=by rw[Cy d.dev rfl];rfl
theorem Mf.rn(f:i<n)(k:EV->R):iF 1 (.slice zl 0 n n true) (I i) (fun v=>Iy v h k)=k (.ptr (z i) 0):=by
 unfold I;rw[On f,Cy d.row rfl,bP,bc,bH,cX f];rfl
theorem Ba6(i:Int):Hc K (.ptr V 0) (I i) h=some (.bool (decide (0<=i/\i<n)),h):=by
 simp only[Hc,I,Ac,Aa];by_cases h0:0<=i
 ·simp only[h0,aC,Aa,Ac,d.list,Wb,hJ]
 ·simp only[h0,aA,Aa,Wb,hH]
end
section
variable{D:Dv}(d:Hu h V D F)(hb:HB h)
include d
theorem tN(i:Int):Hc K (.ptr V 0) (I i) h=some (.bool (D.has i),h):=by
 obtain⟨w,wl,zl,z,q,a,b⟩:=d;exact Ba6 a i
theorem ZL(i:Int):Kr K (.ptr V 0) (I i) h=some (I (if D.has i=true then(D.zs i.toNat).st else 4),h):=by
 simp only[Kr,tN d,Aa];obtain⟨w,wl,zl,z,q,a,b⟩:=d;cases f:D.has i with
 | false=>simp only[Aa,I,aX,ak]
 | true=>
  have:=dG f;obtain⟨j,rfl⟩:∃j:Nat,i=j:=⟨i.toNat,a_⟩;have hj:j<D.n:=a_
  simp only[Aa,KQ,a.list,a.rn hj,AE (a.Ai j hj),bK];rfl
theorem Bb2(i:Int):Qy K (.ptr V 0) (I i) h=some (I (if D.has i=true then(D.zs i.toNat).l.length else 0),h):=by
 simp only[Qy,tN d,Aa];obtain⟨w,wl,zl,z,q,a,b⟩:=d;cases f:D.has i with
 | false=>simp only[Aa,I,aX,ak]
 | true=>
  have:=dG f;obtain⟨j,rfl⟩:∃j:Nat,i=j:=⟨i.toNat,a_⟩;have hj:j<D.n:=a_
  simp only[Aa,NO,a.list,a.rn hj,Bak (a.Ai j hj),bK];rfl
include hb
theorem tS(i:Int):Ok (H9 K (.ptr V 0) (I i) h) fun v h'=>v=I (D.Fm i)/\Hu h' V (D.begin i) F/\Av F h h'/\HB h'/\h'.next=h.next:=by
 have j:=tN (K:=K) d i;obtain⟨w,wl,zl,z,q,a,b⟩:=d;unfold Dv.begin Dv.Fm;simp only[H9,Aa,Cy a.dev rfl];cases hd:D.down with
 | true=>
  simp only[Aa,bK,show((34:Int)=0)=False by simp,ak];exact .ret ⟨rfl,⟨w,wl,zl,z,q,a,b⟩,Av.refl _,hb,rfl⟩
 | false=>
  simp only[Aa,j,aX,ak];cases y:D.has i with
  | false=>
   simp only[Aa,bK,show((13:Int)=0)=False by simp,ak];exact .ret ⟨rfl,⟨w,wl,zl,z,q,a,b⟩,Av.refl _,hb,rfl⟩
  | true=>
   simp only[Aa,gP,ak,bK,JM,Cy a.dev rfl,I,Ac];have f:=hb _ _ a.dev;refine Ok.hM a.dev rfl rfl (by show 3<5;decide) ?_;refine .ret ⟨rfl,⟨⟨w.size,w.n,w.zs⟩,wl,zl,z,q,a.AF (Dl .i64 (D.cnt+1)) D.down,b⟩,(Av.refl h).Ar (.inl (b _ (.inl rfl))) f _,hb.put f _,rfl⟩
end
end
variable {dv:Dv}
theorem VO {b:Nat}{s:DX}{call:Ab->R}(hb:Abk b s=true)(f:loose b s.nw = [])(hc:call h.lift=some (v,h.lift)):Ly i b s h call k=k v h (s.big i):=by
 have hf:Ic b s h=h.lift:=by unfold Ic;rw[f];rfl
 show Bc (Abk b s) (Ev.Am (call (Ic b s h)) fun v h'=>M0 i b s h h' fun s h=>k v h s) none=_;rw[hb,Al,hf,hc];show M0 i b s h h.lift (fun s h=>k v h s)=_;unfold M0;rw[aR (show h.next<=h.lift.mw from aE _),Al,f];rfl
theorem kr {b:Nat}{s:DX}{call:Ab->R}(hc:call h.lift=some (v,h.lift))(hb:Abk b s=true:=by kernel_rfl)(f:loose b s.nw = []:=by kernel_rfl):Ly i b s h call k=k v h (s.big i):=VO hb f hc
theorem Mf.lift{z q:Nat->Nat}{size:Int}{Zs:Nat->Zn}(d:Mf h V zl n z q size op cnt down Zs):Mf h.lift V zl n z q size op cnt down Zs:=d.frame fun i _=>Bx h i
theorem Hu.lift{D:Dv}(d:Hu h V D F):Hu h.lift V D F:=d.frame (aE _) fun i _=>Bx h i
def R9(Zs:Nat->Zn)(n:Nat):Nat:=((List.range n).filter fun i=>(Zs i).st=1).length
theorem zA(Zs:Nat->Zn)(n:Nat):R9 Zs (n+1)=R9 Zs n+(if(Zs n).st=1 then 1 else 0):=by
 unfold R9;rw[cr,fH,aF];congr 1;by_cases hc:(Zs n).st=1<;>simp[hc]
theorem Bkw(Zs:Nat->Zn)(n:Nat):R9 Zs n<=n:=by
 unfold R9;have:=fI (fun i=>decide ((Zs i).st=1)) (List.range n);simpa using this
theorem A9d{z q:Nat->Nat}{size:Int}{Zs:Nat->Zn}(d:Mf h V zl n z q size op cnt down Zs)(hn:n<=512):∀(m i:Nat),n-i<m->i<=n ->
 Ji K m (I (R9 Zs i)) (.slice zl 0 n n true) (I n) (I i) h=some (I (R9 Zs n),h):=by
 intro m;induction m with
 | zero=>intro i hm;omega
 | succ m B=>
  intro i hm C;simp only[Ji,I,Ac,Aa];by_cases j:(i:Int)<n
  ·have y:i<n:=a_
   have A:=d.rn y;simp only[I]at A;have hle:=Bkw Zs i;simp only[j,aC,Aa,Z0,A,AE (d.Ai i y),I,Ac];have f:=B (i+1) a_ a_;rw[zA]at f;by_cases h1:(Zs i).st=1
   ·rw[show decide (((Zs i).st:Int)=1)=true by simp[h1]]
    rw[aI h1]at f;simp only[Aa,Ac,Rj];rw[Ch,Ch];exact f
   ·rw[show decide (((Zs i).st:Int)=1)=false by simp;omega]
    rw[aG h1]at f;simp only[Aa,Ac,Rj];rw[Ch];exact f
  ·have:i=n:=a_
   subst this;simp only[j,aA,Aa,Zx]
theorem Bg6{z q:Nat->Nat}{size:Int}{Zs:Nat->Zn}(d:Mf h V zl n z q size op cnt down Zs)(hn:n<=512)(hK:1000<K):
 Qf K (.ptr V 0) h=some (I (R9 Zs n),h):=by
 simp only[Qf,Aa,d.list];exact A9d d hn K 0 a_ (cS _)
def Dv.append(D:Dv)(i:Int)(x:List EV):Dv × Int × Int:=
 if D.Fm i≠0 then(D,0,D.Fm i)else
 if(D.zs i.toNat).st=0/\D.op<=R9 D.zs D.n then(D.tick,0,33)else
 if 2<=(D.zs i.toNat).st then(D.tick,0,if(D.zs i.toNat).st=2 then 17 else Le (D.zs i.toNat).st)else
 (D.tick.set i.toNat ((D.zs i.toNat).app D.size x),(D.zs i.toNat).l.length,0)
theorem Zn.Wf.app {Z:Zn}{size:Nat}(w:Z.Wf size)(hs:Z.st<2)(j:U8 x):(Z.app size x).Wf size:=by
 have:=w.room hs;have:=w.safe;refine⟨fun y f=>?_,?_,?_,?_,?_⟩<;>try simp only[Zn.app,aF,List.length_singleton]
 ·rcases bN.1 f with f|f
  ·exact w.u8 y f
  ·rw[aP.1 f];exact j
 ·split<;>omega
 ·omega
 ·omega
 ·split<;>omega
theorem Dv.Wf.set {D:Dv}(w:D.Wf){Z:Zn}(z:Z.Wf D.size):(D.set i Z).Wf:=by
 refine⟨w.size,w.n,fun j hj=>?_⟩;show(Hd D.zs i Z j).Wf D.size;unfold Hd;split
 ·exact z
 ·exact w.zs j hj
theorem Hu.Ai{D:Dv}(w:D.Wf){z q:Nat->Nat}(a:Mf h V zl D.n z q D.size D.op D.cnt D.down D.zs)(b:∀i,A31 V zl D.n z q D.zs i->F i)(wl:∀i,F i->i<h.next)(hb:HB h)(C:i<D.n){Z:Zn}
 (O:Z.Wf D.size) (J:Fj h' (z i) q' D.size Z) (c:Av (fun j=>j=z i\/((D.zs i).l≠[]/\j=q i)) h h') (E:HB h') (hq:Z.l≠[]->h.next<=q'\/(q'=q i/\(D.zs i).l≠[])) :
 Hu h' V (D.set i Z) (Bm F h h')/\Av F h h':=by
 have L:∀j,(j=z i\/((D.zs i).l≠[]/\j=q i))->F j:=by
  rintro j (y|⟨f,A⟩)
  ·exact b j (.inr (.inr ⟨i,C,.inl y⟩))
  ·exact b j (.inr (.inr ⟨i,C,.inr ⟨f,A⟩⟩))
 refine⟨⟨w.set O,Bm.lt wl c.next,zl,z,_,a.WM hb C J c hq,?_⟩,c.mono L⟩;rintro j (y|y|⟨d,hd,y⟩)
 ·exact .inl (b j (.inl y))
 ·exact .inl (b j (.inr (.inl y)))
 ·rcases y with y|⟨f,A⟩
  ·exact .inl (b j (.inr (.inr ⟨d,hd,.inl y⟩)))
  ·by_cases B:d=i
   ·subst B
    simp only[Dv.set,Hd,mE,bK]at f A;subst A;rcases hq f with y|⟨U,W⟩
    ·obtain⟨s,_,r⟩:=J.Ai
     exact .inr ⟨y,E _ _ (r.block (pV.1 f))⟩
    ·rw[U];exact .inl (L _ (.inr ⟨W,rfl⟩))
   ·simp only[Dv.set,Hd,mE,B,ak]at f A
    exact .inl (b j (.inr (.inr ⟨d,hd,.inr ⟨f,A⟩⟩)))
theorem A29{D:Dv}(d:Hu h V D F)(hb:HB h)(hK:1000<K)(i:Int)(hx:x.length=64)(hu:U8 x):
 Ok (Qi K (.ptr V 0) (I i) (.agg x) h) fun v h'=>v=.tuple [I (D.append i x).2.1,I (D.append i x).2.2]/\Hu h' V (D.append i x).1 (Bm F h h')/\Av F h h'/\HB h':=by
 simp only[Qi,Aa];have x1:Ext h (h.new (.cells x 29)):=Av.new _ _;have L:(h.new (.cells x 29)).get h.next=some (.cells x 29):=Ad _ _
 have E:HB (h.new (.cells x 29)):=hb.new _;have d1:=d.ext x1;have n1:(h.new (.cells x 29)).next=h.next+1:=rfl
 generalize h.new (.cells x 29)=h1 at x1 L E d1 n1⊢;refine(tS (K:=K) d1 E i).Am ?_;rintro _ h2 ⟨rfl,d2,c2,A,n2⟩;have nx:¬F h.next:=fun y=>bT _ (d.lt _ y)
 have L:=c2.at E L nx;have B:Av F h h2:=(Ext.to x1).trans c2;unfold Dv.append;unfold Dv.begin at d2;by_cases f:D.Fm i=0
 ·rw[aI f]at d2
  rw[aG (by rw[f];exact fun y=>y rfl),f];simp only[I,Ac,aB,aA,Aa,Zl];obtain⟨w,wl,zl,z,q,a,b⟩:=d2;have O:D.has i=true:=by
   unfold Dv.Fm at f;cases hh:D.has i with
   | true=>rfl
   | false=>rw[hh]at f;split at f<;>simp at f
  have:=dG O;obtain⟨j,rfl⟩:∃j:Nat,i=j:=⟨i.toNat,a_⟩;have hj:j<D.n:=a_
  rw[show(j:Int).toNat=j from rfl];have lV:=A _ _ a.dev;have U:=A _ _ a.row;have l5:=A _ _ L;have lz:=A _ _ (a.Ai j hj).Ai.choose_spec.1;have W:∀k:EV->R,Iy (.ptr zl j) h2 k=k (.ptr (z j) 0):=fun k=>by
   have:=a.rn hj k;unfold I at this;rw[On (show j<D.tick.n from hj),bP,bc]at this;exact this
  have X:∀k:EV->R,iF 1 (.slice zl 0 D.tick.n D.tick.n true) (.int .i64 (j:Int)) k=k (.ptr zl j):=fun k=>by
   rw[On (show j<D.tick.n from hj),bP,bc]
  simp only[Aa,As,Cq lV,a.list,X,Cq U,W];rw[kr (AE (a.lift.Ai j hj))];have ah:=Bg6 (K:=K) a.lift w.n hK;have dd:∀h',Ext h2 h'->Hu h' V D.tick (Bm F h h')/\Av F h h'/\HB h':=fun h' x'=>⟨(Hu.ext ⟨w,wl,zl,z,q,a,b⟩ x').grow d.lt (by have:=B.next;have:=x'.next;omega),B.trans (Ext.to x'),x'.hb A⟩
  have app:¬((D.zs j).st=0/\D.op<=R9 D.zs D.n)->Ok (Rt K (.ptr V 0) (I j) (.ptr h.next 0) h2) fun v h'=>v=.tuple [I (if(D.zs j).st=0/\D.op<=R9 D.zs D.n then(D.tick,0,33)else if 2<=(D.zs j).st then(D.tick,0,if(D.zs j).st=2 then 17 else Le (D.zs j).st)else(D.tick.set j ((D.zs j).app D.size x),((D.zs j).l.length:Int),(0:Int))).2.1,I (if(D.zs j).st=0/\D.op<=R9 D.zs D.n then(D.tick,0,33)else if 2<=(D.zs j).st then(D.tick,0,if(D.zs j).st=2 then 17 else Le (D.zs j).st)else(D.tick.set j ((D.zs j).app D.size x),((D.zs j).l.length:Int),(0:Int))).2.2]/\Hu h' V (if(D.zs j).st=0/\D.op<=R9 D.zs D.n then(D.tick,0,33)else if 2<=(D.zs j).st then(D.tick,0,if(D.zs j).st=2 then 17 else Le (D.zs j).st)else(D.tick.set j ((D.zs j).app D.size x),((D.zs j).l.length:Int),(0:Int))).1 (Bm F h h')/\Av F h h'/\HB h':=by
   intro ai;rw[aG ai];simp only[Rt,I,Aa,As,Cq lV,a.list,X,Cq U,W,Cq l5,Cz L rfl,Ak hx];have wz:=w.zs j hj;have al:=w.size;have ao:=wz.len;by_cases J:2<=(D.zs j).st
   ·rw[aI J]
    refine Ok.bE (A00 (K:=K) (a.lift.Ai j hj) (C8 A) J wz.st x) (fun _ _ p=>p.2) ?_;rintro _ h3 h4 ⟨rfl,_⟩ sm x4;simp only[Aa];exact .ret ⟨rfl,dd h4 x4⟩
   ·rw[aG J]
    have C:(D.zs j).st<2:=a_
    refine Ok.rP (S:=fun i=>i=z j\/(0<(D.zs j).l.length/\i=q j)) (by kernel_rfl) (by kernel_rfl) (fun _=>by kernel_rfl) (A2g (K:=K) (size:=D.size) (a.lift.Ai j hj) (C8 A) C (bQ ao al) hx) (fun _ _ p=>p.2.2.1) ?_;rintro _ h3 h4 s' ⟨rfl,⟨q',zz,Y⟩,_,aq⟩ sm c4 _;simp only[Aa];have aa:=sm.hb aq;have au:Fj h4 (z j) q' D.size ((D.zs j).app D.size x):=zz.ext fun i o g=>by rw[sm.get];exact g
    obtain⟨d4,ab⟩:=Hu.Ai w a b wl A hj (wz.app C hu) au (c4.mono fun i hi=>by
     rcases hi with y|⟨y1,y2⟩
     ·exact .inl y
     ·exact .inr ⟨pV.2 y1,y2⟩) aa (fun _=>.inl (by rw[sA]at Y;exact Y))
    refine .ret ⟨rfl,?_,B.trans ab,aa⟩;refine d4.mono (fun i hi=>?_) (Bm.lt d.lt (B.trans ab).next);rcases hi with y|y
    ·exact .inl y
    ·exact .inr ⟨bQ B.next y.1,y.2⟩
  simp only[I,Ac];by_cases h0:(D.zs j).st=0
  ·rw[show decide (((D.tick.zs j).st:Int)=0)=true from aO (by show((D.zs j).st:Int)=0;omega)]
   simp only[Aa,Ac];rw[kr ah];rw[Hl lV,Cy a.dev rfl];simp only[Aa,I,Ac,Mw];by_cases ho:D.op<=R9 D.zs D.n
   ·rw[show decide (D.tick.op<=((R9 D.tick.zs D.tick.n:Nat):Int))=true from aO ho]
    simp only[Aa];rw[aI ⟨h0,ho⟩];exact .ret ⟨rfl,dd h2 (Av.refl _)⟩
   ·rw[show decide (D.tick.op<=((R9 D.tick.zs D.tick.n:Nat):Int))=false from aL ho]
    simp only[Aa];exact app fun y=>ho y.2
  ·rw[show decide (((D.tick.zs j).st:Int)=0)=false from aL (by show ¬((D.zs j).st:Int)=0;omega)]
   simp only[Aa,Ac,Mw];exact app fun y=>h0 y.1
 ·rw[aG f]at d2
  rw[aI f];simp only[I,Ac,f,aQ,aC,Aa];exact .ret ⟨rfl,d2.grow d.lt B.next,B,A⟩
def Dv.read(D:Dv)(i off:Int):List EV × Int:=if D.Fm i≠0 then(Uu,D.Fm i)else jL (D.zs i.toNat) off
theorem Dv.tV {D:Dv}{i:Int}(f:D.Fm i=0):∃j:Nat,i=j/\j<D.n:=by
 have y:D.has i=true:=by
  unfold Dv.Fm at f;cases A:D.has i with
  | true=>rfl
  | false=>rw[A]at f;split at f<;>simp at f
 have:=dG y;exact⟨i.toNat,a_,a_⟩
theorem Mf.rA{z q:Nat->Nat}{size:Int}{Zs:Nat->Zn}(d:Mf h V zl n z q size op cnt down Zs){j:Nat}(hj:j<n):
 (∀k:EV->R,iF 1 (.slice zl 0 n n true) (.int .i64 (j:Int)) k=k (.ptr zl j))/\(∀k:EV->R,Iy (.ptr zl j) h k=k (.ptr (z j) 0)):=by
 have f:∀k:EV->R,iF 1 (.slice zl 0 n n true) (.int .i64 (j:Int)) k=k (.ptr zl j):=fun k=>by
  rw[On hj,bP,bc]
 refine⟨f,fun k=>?_⟩;have:=d.rn hj k;unfold I at this;rw[f]at this;exact this
theorem Ba7{D:Dv}(d:Hu h V D F)(hb:HB h)(i off:Int):
 Ok (T7 K (.ptr V 0) (I i) (I off) h) fun v h'=>v=.tuple [.agg (D.read i off).1,I (D.read i off).2]/\(D.read i off).1.length=64/\Hu h' V (D.begin i) (Bm F h h')/\Av F h h'/\HB h':=by
 simp only[T7,Aa];have U:Ext h (h.new (.cells (List.replicate 64 (.int .u8 0)) 29)):=Av.new _ _;have L:(h.new (.cells (List.replicate 64 (.int .u8 0)) 29)).get h.next=some (.cells Uu 29):=Ad _ _
 have B:HB (h.new (.cells (List.replicate 64 (.int .u8 0)) 29)):=hb.new _;have d1:=d.ext U;generalize h.new (.cells (List.replicate 64 (.int .u8 0)) 29)=h1 at U L B d1⊢;refine(tS (K:=K) d1 B i).Am ?_;rintro _ h2 ⟨rfl,d2,c2,C,n2⟩;have nx:¬F h.next:=fun y=>bT _ (d.lt _ y)
 have L:=c2.at B L nx;have W:Av F h h2:=(Ext.to U).trans c2;have fin:∀(l:List EV) (e:Int) (A:Ab),Ext h2 A->l.length=64->Ok (hQ 64 (.ptr h.next 0) (.agg l) A fun h=>J5 TT [.c (.ptr h.next 0) 29,.v (I e)] h) (fun _ _=>True)->True:=fun _ _ _ _ _ _=>trivial
 clear fin;have fin:∀(l:List EV) (e:Int) (A:Ab) (X:Ab->R),(∀h',X h'=J5 TT [.c (.ptr h.next 0) 29,.v (I e)] h')->Ext h2 A->l.length=64->(l,e)=D.read i off->Ok (hQ 64 (.ptr h.next 0) (.agg l) A X) fun v h'=>v=.tuple [.agg (D.read i off).1,I (D.read i off).2]/\(D.read i off).1.length=64/\Hu h' V (D.begin i) (Bm F h h')/\Av F h h'/\HB h':=by
  intro l e A X Y E O he;have J:=E.hb C;have g3:=E.at C L;refine Ok.st l g3 rfl (by rw[show EV.cells (.agg l)=l from rfl,Bg,O]) (Bo (by rw[K8];exact O.symm)) ?_;rw[Y,Em (Ae _ _ _) kR.1 kR.2 O,<-he];have l3:=J _ _ g3;have c3:Av F h (A.put h.next (.cells l 29)):=(W.trans (Ext.to E)).Ar (.inr (aE _)) l3 _;refine .ret ⟨rfl,O,?_,c3,J.put l3 _⟩;refine(((d2.ext E).frame (h':=A.put h.next (.cells l 29)) (aE _) fun j hj=>Af _ fun y=>?_)).grow d.lt c3.next
  subst y;exact nx hj
 unfold Dv.read at fin⊢;by_cases f:D.Fm i=0
 ·rw[aG (by rw[f];exact fun y=>y rfl)]at fin⊢
  have aa:D.begin i=D.tick:=by unfold Dv.begin;rw[aI f]
  rw[aa]at d2 fin⊢;rw[f];obtain⟨j,rfl,hj⟩:=Dv.tV f;obtain⟨zl,z,q,a,b⟩:=d2.Ph;obtain⟨ab,ad⟩:=a.rA (j:=j) hj;simp only[I,Ac,aB,aA,Aa,J_,a.list,ab,ad];refine(A7h (K:=K) (a.Ai j hj) C off).Am ?_;rintro _ A ⟨rfl,E⟩;simp only[Aa];exact fin _ _ A _ (fun _=>rfl) E (Bjr (a.Ai j hj).wf off) rfl
 ·rw[aI f]at fin⊢
  simp only[I,Ac,f,aQ,aC,Aa];rw[Ay (l:=Uu) rfl];exact fin Uu (D.Fm i) h2 _ (fun _=>rfl) (Av.refl _) K8 rfl
def Dv.finish(D:Dv)(i:Int):Dv × Int:=
 if D.Fm i≠0 then(D,D.Fm i)else
 (if Le (D.zs i.toNat).st=0 then D.tick.set i.toNat (D.zs i.toNat).finish else D.tick,Le (D.zs i.toNat).st)
theorem Zn.Wf.finish {Z:Zn}{size:Nat}(w:Z.Wf size):Z.finish.Wf size:=⟨w.u8,by show 2<=4;omega,w.safe,w.len,fun y=>absurd y (by show ¬2<2;omega)⟩
theorem A3s{D:Dv}(d:Hu h V D F)(hb:HB h)(i:Int):
 Ok (P6 K (.ptr V 0) (I i) h) fun v h'=>v=I (D.finish i).2/\Hu h' V (D.finish i).1 (Bm F h h')/\Av F h h'/\HB h':=by
 simp only[P6,dr];refine(tS (K:=K) d hb i).Am ?_;rintro _ h2 ⟨rfl,d2,c2,B,X⟩;unfold Dv.finish;by_cases f:D.Fm i=0
 ·rw[aG (by rw[f];exact fun y=>y rfl),f]
  have E:D.begin i=D.tick:=by unfold Dv.begin;rw[aI f]
  rw[E]at d2;obtain⟨j,rfl,hj⟩:=Dv.tV f;obtain⟨zl,z,q,a,b⟩:=d2.Ph;obtain⟨L,O⟩:=a.rA (j:=j) hj;simp only[I,Ac,aB,aA,Aa,Z1,a.list,L,O];refine(A1u (K:=K) (a.Ai j hj) B).Am ?_;rintro _ U ⟨rfl,J,c3,C⟩
  try simp only[Aa]
  rw[show(j:Int).toNat=j from rfl];have J:Fj U (z j) (q j) D.size (if Le (D.zs j).st=0 then(D.zs j).finish else D.zs j):=J;by_cases hf:Le (D.zs j).st=0
  ·simp only[hf,bK]at J⊢
   obtain⟨d3,A⟩:=Hu.Ai d2.wf a b d2.lt B hj (d2.wf.zs j hj).finish J (c3.mono fun _=>.inl) C (fun y=>.inr ⟨rfl,y⟩);refine .ret ⟨by rw[show Le (D.tick.zs j).st=Le (D.zs j).st from rfl,hf],d3.mono (fun i W=>?_) (Bm.lt d.lt (c2.trans A).next),c2.trans A,C⟩;rcases W with y|y
   ·exact .inl y
   ·exact .inr ⟨bQ c2.next y.1,y.2⟩
  ·simp only[hf,ak]at J⊢
   obtain⟨d3,A⟩:=Hu.Ai d2.wf a b d2.lt B hj (d2.wf.zs j hj) J (c3.mono fun _=>.inl) C (fun y=>.inr ⟨rfl,y⟩);have e:D.tick.set j (D.zs j)=D.tick:=by
    unfold Dv.set;have:Hd D.tick.zs j (D.zs j)=D.tick.zs:=by funext k;unfold Hd;split<;>simp_all [Dv.tick]
    rw[this]
   have d3:Hu U V (D.tick.set j (D.zs j)) (Bm F h2 U):=d3;rw[e]at d3;refine .ret ⟨rfl,d3.mono (fun i W=>?_) (Bm.lt d.lt (c2.trans A).next),c2.trans A,C⟩;rcases W with y|y
   ·exact .inl y
   ·exact .inr ⟨bQ c2.next y.1,y.2⟩
 ·rw[aI f]
  have E:D.begin i=D:=by unfold Dv.begin;rw[aG f]
  rw[E]at d2;simp only[I,Ac,f,aQ,aC,Aa];exact .ret ⟨rfl,d2.grow d.lt c2.next,c2,B⟩
def Dv.WN(D:Dv):Dv:={ D with down:=true }
theorem A55{D:Dv}(d:Hu h V D F)(hb:HB h):
 Ok (Sc K (.ptr V 0) h) fun v h'=>Hu h' V D.WN F/\Av F h h'/\HB h':=by
 obtain⟨w,wl,zl,z,q,a,b⟩:=d;simp only[Sc,Aa];have f:=hb _ _ a.dev;refine Ok.hM a.dev rfl rfl (by show 4<5;decide) ?_;exact .ret ⟨⟨⟨w.size,w.n,w.zs⟩,wl,zl,z,q,a.AF D.cnt true,b⟩,(Av.refl h).Ar (.inl (b _ (.inl rfl))) f _,hb.put f _⟩
structure jM(h:Ab)(V zl:Nat)(z:Nat->Nat)(D:Dv)(F:Nat->Prop):Prop where
 wf:D.Wf
 lt:∀i,F i->i<h.next
 Ph:∃q,Mf h V zl D.n z q D.size D.op D.cnt D.down D.zs/\∀i,A31 V zl D.n z q D.zs i->F i
theorem Hu.z{D:Dv}(d:Hu h V D F):∃zl z,jM h V zl z D F:=by
 obtain⟨zl,z,q,a,b⟩:=d.Ph;exact⟨zl,z,d.wf,d.lt,q,a,b⟩
theorem jM.s{z:Nat->Nat}{D:Dv}(d:jM h V zl z D F):Hu h V D F:=by
 obtain⟨q,a,b⟩:=d.Ph;exact⟨d.wf,d.lt,zl,z,q,a,b⟩
theorem jM.mono{z:Nat->Nat}{D:Dv}(d:jM h V zl z D F)(s:∀i,F i->G i)(l:∀i,G i->i<h.next):jM h V zl z D G:=by
 obtain⟨q,a,b⟩:=d.Ph;exact⟨d.wf,l,q,a,fun i f=>s i (b i f)⟩
theorem jM.congr{z:Nat->Nat}{D:Dv}(d:jM h V zl z D F){zs':Nat->Zn}(e:∀i,i<D.n->zs' i=D.zs i):jM h V zl z { D with zs:=zs' } F:=by
 obtain⟨q,a,b⟩:=d.Ph;refine⟨⟨d.wf.size,d.wf.n,fun i f=>?_⟩,d.lt,q,⟨a.pos,a.dev,a.row,fun i f=>?_,a.A7f,fun i j f hj=>?_⟩,?_⟩
 ·show(zs' i).Wf _;rw[e i f];exact d.wf.zs i f
 ·show Fj _ _ _ _ (zs' i);rw[e i f];exact a.Ai i f
 ·show(zs' i).l≠[]->(zs' j).l≠[]->_;rw[e i f,e j hj];exact a.A98 i j f hj
 ·rintro i (y|y|⟨k,A,y⟩)
  ·exact b i (.inl y)
  ·exact b i (.inr (.inl y))
  ·refine b i (.inr (.inr ⟨k,A,?_⟩))
   have y:i=z k\/(zs' k).l≠[]/\i=q k:=y;rw[e k A]at y;exact y
theorem jM.Ai{z:Nat->Nat}{D:Dv}(d:jM h V zl z D F){q:Nat->Nat}(a:Mf h V zl D.n z q D.size D.op D.cnt D.down D.zs)(b:∀i,A31 V zl D.n z q D.zs i->F i)(hb:HB h)(C:i<D.n){Z:Zn}
 (O:Z.Wf D.size) (J:Fj h' (z i) q' D.size Z) (c:Av (fun j=>j=z i\/((D.zs i).l≠[]/\j=q i)) h h') (E:HB h') (hq:Z.l≠[]->h.next<=q'\/(q'=q i/\(D.zs i).l≠[])) :
 jM h' V zl z (D.set i Z) (Bm F h h')/\Av F h h':=by
 have L:∀j,(j=z i\/((D.zs i).l≠[]/\j=q i))->F j:=by
  rintro j (y|⟨f,A⟩)
  ·exact b j (.inr (.inr ⟨i,C,.inl y⟩))
  ·exact b j (.inr (.inr ⟨i,C,.inr ⟨f,A⟩⟩))
 refine⟨⟨d.wf.set O,Bm.lt d.lt c.next,_,a.WM hb C J c hq,?_⟩,c.mono L⟩;rintro j (y|y|⟨d,hd,y⟩)
 ·exact .inl (b j (.inl y))
 ·exact .inl (b j (.inr (.inl y)))
 ·rcases y with y|⟨f,A⟩
  ·exact .inl (b j (.inr (.inr ⟨d,hd,.inl y⟩)))
  ·by_cases B:d=i
   ·subst B
    simp only[Dv.set,Hd,mE,bK]at f A;subst A;rcases hq f with y|⟨U,W⟩
    ·obtain⟨s,_,r⟩:=J.Ai
     exact .inr ⟨y,E _ _ (r.block (pV.1 f))⟩
    ·rw[U];exact .inl (L _ (.inr ⟨W,rfl⟩))
   ·simp only[Dv.set,Hd,mE,B,ak]at f A
    exact .inl (b j (.inr (.inr ⟨d,hd,.inr ⟨f,A⟩⟩)))
def oQ(f:Nat->Zn->Zn)(zs:Nat->Zn)(i:Nat):Nat->Zn:=fun j=>if j<i then f j (zs j)else zs j
theorem Bbu(f:Nat->Zn->Zn)(zs:Nat->Zn)(i:Nat):oQ f zs (i+1)=Hd (oQ f zs i) i (f i (zs i)):=by
 funext j;unfold oQ Hd;by_cases h1:j=i
 ·subst h1;simp
 ·by_cases h2:j<i
  ·rw[aI a_,aG h1];exact(aI h2).symm
  ·rw[aG a_,aG h1];exact(aG h2).symm
theorem WO(f:Nat->Zn->Zn)(zs:Nat->Zn)(i:Nat):oQ f zs i i=zs i:=by unfold oQ;rw[aG a_]
def Dv.flush(D:Dv):Dv × Int:=if D.down=true then(D,34)else({ D.tick with zs:=fun i=>(D.zs i).flush },0)
theorem Zn.Wf.flush {Z:Zn}{size:Nat}(w:Z.Wf size):Z.flush.Wf size:=⟨w.u8,w.st,aE _,w.len,w.room⟩
theorem Bc9{z:Nat->Nat}{D:Dv}(h0:Ab)(C:∀j,F j->j<h0.next):∀(m i:Nat) (h:Ab),D.n-i<m->i<=D.n->HB h->Av F h0 h->jM h V zl z { D with zs:=oQ (fun _ Z=>Z.flush) D.zs i } (Bm F h0 h) ->
 Ok (Kh K m (.slice zl 0 D.n D.n true) (I D.n) (I i) h) fun v h'=>v=I 0/\jM h' V zl z { D with zs:=oQ (fun _ Z=>Z.flush) D.zs D.n } (Bm F h0 h')/\Av F h0 h'/\HB h':=by
 intro m;induction m with
 | zero=>intro i h hm;omega
 | succ m W=>
  intro i h hm Y hb c d;have hn:=d.wf.n;have hn:D.n<=512:=hn;simp only[Kh,I,Ac,Aa];by_cases A:(i:Int)<D.n
  ·have f:i<D.n:=a_
   obtain⟨q,a,b⟩:=d.Ph;obtain⟨E,J⟩:=a.rA (j:=i) f;simp only[A,aC,Aa,JZ,E,J];have O:=a.Ai i f;have U:=d.wf.zs i f;simp only[WO]at O U;refine(A3o (K:=K) O hb).Am ?_;rintro _ h1 ⟨X,c1,B⟩;simp only[JY,I,Ac];rw[Ch];obtain⟨d1,L⟩:=d.Ai a b hb f U.flush X (c1.mono fun _=>.inl) B (fun y=>.inr ⟨rfl,by simp only[WO];exact y⟩);have c2:=c.grow L;refine W (i+1) h1 a_ a_ B c2 ?_;rw[Bbu];exact d1.mono (fun j hj=>Bm.trans c.next c1.next hj) (Bm.lt C c2.next)
  ·have:i=D.n:=a_
   subst this;simp only[A,aA,Aa,JX];exact .ret ⟨rfl,d,c,hb⟩
theorem A7t{D:Dv}(d:Hu h V D F)(hb:HB h)(hK:1000<K):
 Ok (Sh K (.ptr V 0) h) fun v h'=>v=I D.flush.2/\Hu h' V D.flush.1 (Bm F h h')/\Av F h h'/\HB h':=by
 obtain⟨w,wl,zl,z,q,a,b⟩:=d;have hn:=w.n;unfold Dv.flush;simp only[Sh,Aa,Cy a.dev rfl];cases hd:D.down with
 | true=>
  simp only[Aa,bK];exact .ret ⟨rfl,Hu.grow ⟨w,wl,zl,z,q,a,b⟩ wl (aE _),Av.refl _,hb⟩
 | false=>
  simp only[Aa,aX,ak,J',Cy a.dev rfl,I,Ac];have y:=hb _ _ a.dev;refine Ok.hM a.dev rfl rfl (by show 3<5;decide) ?_;have c1:Av F h (h.put V (.cells ([EV.slice zl 0 D.n D.n true,I D.size,I D.op,I D.cnt,.bool D.down].set 3 (.int .i64 (Dl .i64 (D.cnt+1)))) 104)):=(Av.refl h).Ar (.inl (b _ (.inl rfl))) y _;have f:HB (h.put V (.cells ([EV.slice zl 0 D.n D.n true,I D.size,I D.op,I D.cnt,.bool D.down].set 3 (.int .i64 (Dl .i64 (D.cnt+1)))) 104)):=hb.put y _;have d1:jM (h.put V (.cells ([EV.slice zl 0 D.n D.n true,I D.size,I D.op,I D.cnt,.bool D.down].set 3 (.int .i64 (Dl .i64 (D.cnt+1)))) 104)) V zl z D.tick F:=⟨⟨w.size,w.n,w.zs⟩,wl,q,a.AF (Dl .i64 (D.cnt+1)) D.down,b⟩;generalize h.put V (.cells ([EV.slice zl 0 D.n D.n true,I D.size,I D.op,I D.cnt,.bool D.down].set 3 (.int .i64 (Dl .i64 (D.cnt+1)))) 104)=h1 at c1 f d1⊢;obtain⟨C,A,b1⟩:=d1.Ph;rw[Cy A.dev rfl];simp only[Aa];have:=Bc9 (K:=K) (D:=D.tick) (F:=F) h wl K 0 h1 (by show D.n-0<K;omega) (cS _) f c1 (jM.congr (d1.mono (fun _=>.inl) (Bm.lt wl c1.next)) (fun i _=>by unfold oQ;rw[aG (cC _)]));refine this.mono ?_;rintro v h2 ⟨rfl,d2,c2,j⟩;refine⟨rfl,?_,c2,j⟩;exact(d2.congr (zs':=fun i=>(D.zs i).flush) fun i B=>(aI B).symm).s
def Dv.fail(D:Dv)(i:Int)(st:Nat):Dv:=if D.has i=true then D.set i.toNat ((D.zs i.toNat).fail st)else D
theorem Zn.Wf.fail {Z:Zn}{size:Nat}(w:Z.Wf size)(st:Nat):(Z.fail st).Wf size:=by
 unfold Zn.fail;split
 ·exact⟨w.u8,by show st<=4;omega,w.safe,w.len,fun y=>absurd y (by show ¬st<2;omega)⟩
 ·exact w
theorem A8r{D:Dv}(d:Hu h V D F)(hb:HB h)(i:Int)(st:Nat):
 Ok (Pd K (.ptr V 0) (I i) (I st) h) fun v h'=>Hu h' V (D.fail i st) (Bm F h h')/\Av F h h'/\HB h':=by
 simp only[Pd,tN d,Aa];unfold Dv.fail;cases E:D.has i with
 | false=>
  simp only[Aa,aX,ak];exact .ret ⟨d.grow d.lt (aE _),Av.refl _,hb⟩
 | true=>
  have:=dG E;obtain⟨j,rfl⟩:∃j:Nat,i=j:=⟨i.toNat,a_⟩;have hj:j<D.n:=a_
  obtain⟨zl,z,q,a,b⟩:=d.Ph;obtain⟨A,B⟩:=a.rA (j:=j) hj;simp only[Aa,bK,KO,a.list];unfold I;rw[A,B];refine(A6p (K:=K) (a.Ai j hj) hb st).Am ?_;rintro _ L ⟨J,c3,f⟩;obtain⟨d3,C⟩:=Hu.Ai d.wf a b d.lt hb hj ((d.wf.zs j hj).fail st) J (c3.mono fun _=>.inl) f (fun y=>.inr ⟨rfl,by
   unfold Zn.fail at y;split at y<;>exact y⟩)
  exact .ret ⟨d3,C,f⟩
def kp(a b:Int):EV:=.agg [I a,I b]
def Amt(ms:List (EV × EV)):Prop:=∀e∈ms,∃a b p n,e=(kp a b,.agg (p++[I n]))/\U8 p/\p.length=64
theorem rv(a b:Int):jX (I a) (I b)=some (decide (a=b)):=by
 show Bc (Nat.beq (Pq .i64) (Pq .i64)) (some (iV a b)) none=_;rw[cL,Al,mc]
theorem Blx(a b c d:Int):nh (kp a b) (kp c d)=some (decide (a=c/\b=d)):=by
 show Fa [I a,I b] [I c,I d]=_;unfold Fa;rw[rv];by_cases h1:a=c
 ·rw[aO h1]
  simp only[Fa,rv];by_cases h2:b=d
  ·rw[aO h2,aO ⟨h1,h2⟩]
  ·rw[aL h2,aL fun y=>h2 y.2]
 ·rw[aL h1,aL fun y=>h1 y.1]
  simp only[Fa,rv];by_cases h2:b=d
  ·rw[aO h2]
  ·rw[aL h2]
theorem wm(a b:Int):∀(ms:List (EV × EV)) (i:Nat),Amt ms->Io (kp a b) ms i=some none\/∃j p n,Io (kp a b) ms i=some (some (j,.agg (p++[I n])))/\U8 p/\p.length=64
 | [],i,_=>.inl rfl
 | (x,y)::r,i,hm=>by
  obtain⟨f,A,p,n,e,hp,B⟩:=hm _ (aW ..);cases e;have C:=wm a b r (Nat.succ i) fun e he=>hm e (aT _ he)
  unfold Io;rw[Blx];by_cases hc:a=f/\b=A
  ·rw[aO hc];exact .inr ⟨i,p,n,rfl,hp,B⟩
  ·rw[aL hc];exact C
theorem AG(a b:Int):O2 TT 217 (kp a b)=true:=by
 have h1:TT.key 217=true:=by kernel_rfl
 have h2:TT.eqs 217=some [0,0]:=by kernel_rfl
 unfold O2 kp;simp only[h1,h2,Al];rw[show shaped [0,0] [I a,I b]=true from rfl,Al];simp only[Fa,rv,aC]
theorem WQ{M:Nat}(hg:h.get M=some (.map ms))(hm:Amt ms)(a b:Int):∃jo,builtin TT .delete #[98,217] [.map M,kp a b] h=some (.tuple [],h.put M (.map jo))/\Amt jo:=by
 have hu:TT.T8 98=some (.map 217 235):=by kernel_rfl
 have e:builtin TT .delete #[98,217] [.map M,kp a b] h=Bc (O2 TT 217 (kp a b)) (match h.get M with
  | some (.map es)=>match Io (kp a b) es 0 with
   | some (some (j,_))=>some (.tuple [],h.put M (.map (es.eraseIdx j)))
   | some none=>some (.tuple [],h.put M (.map es))
   | none=>none
  | _=>none) none:=by
  unfold builtin;simp only[hu];rfl
 rw[e,AG,Al,hg];rcases wm a b ms 0 hm with y|⟨j,p,n,y,_⟩
 ·simp only[y];exact⟨ms,rfl,hm⟩
 ·simp only[y];exact⟨_,rfl,fun e he=>hm e (List.mem_of_mem_eraseIdx he)⟩
theorem Bgv{M:Nat}(hg:h.get M=some (.map ms))(hm:Amt ms)(a b:Int):∃p n,qs TT 217 235 false (.map M) (kp a b) h=some (.agg (p++[I n]),h)/\U8 p/\p.length=64:=by
 have e:qs TT 217 235 false (.map M) (kp a b) h=Bc (O2 TT 217 (kp a b)) (match h.get M with
  | some (.map es)=>match Io (kp a b) es 0 with
   | some (some (_,v))=>some (v,h)
   | some none=>oB (fun f=>some (f,h)) (zeroOf TT 235)
   | none=>none
  | _=>none) none:=rfl
 have A:zeroOf TT 235=some (.agg (Uu++[I 0])):=by kernel_rfl
 rw[e,AG,Al,hg];rcases wm a b ms 0 hm with y|⟨j,p,n,y,hp,B⟩
 ·simp only[y,A];exact⟨Uu,0,rfl,U8.zs,K8⟩
 ·simp only[y];exact⟨p,n,rfl,hp,B⟩
theorem A6g{M:Nat}(hg:h.get M=some (.map ms))(hm:Amt ms)(a b:Int){p:List EV}{n:Int}(hp:U8 p)(f:p.length=64):∃jo,qu TT 217 (.map M) (kp a b) (.agg (p++[I n])) h=some (.tuple [],h.put M (.map jo))/\Amt jo:=by
 have e:qu TT 217 (.map M) (kp a b) (.agg (p++[I n])) h=Bc (O2 TT 217 (kp a b)) (match h.get M with
  | some (.map es)=>match Io (kp a b) es 0 with
   | some (some (j,_))=>some (.tuple [],h.put M (.map (es.set j (kp a b,.agg (p++[I n])))))
   | some none=>some (.tuple [],h.put M (.map (es++[(kp a b,.agg (p++[I n]))])))
   | none=>none
  | _=>none) none:=rfl
 rw[e,AG,Al,hg];rcases wm a b ms 0 hm with y|⟨j,A,B,y,_⟩
 ·simp only[y]
  refine⟨_,rfl,fun e he=>?_⟩;rcases bN.1 he with he|he
  ·exact hm e he
  ·rw[aP.1 he];exact⟨a,b,p,n,rfl,hp,f⟩
 ·simp only[y]
  refine⟨_,rfl,fun e he=>?_⟩;rcases cZ he with he|he
  ·exact hm e he
  ·rw[he];exact⟨a,b,p,n,rfl,hp,f⟩
structure Evt where
 Ph:Int
 kind:Int
 Ai:Int
 off:Int
 pat:List EV
def Evt.cells(e:Evt):List EV:=[I e.Ph,I e.kind,I e.Ai,I e.off]++e.pat
structure Evt.Wf(e:Evt):Prop where
 u8:U8 e.pat
 len:e.pat.length=64
structure J1 where
 dv:Dv
 ev:List Evt
 Qp:List Evt
def Bue:EV->EV->EV
 | .int k x,.int _ y=>.int k (Int.ofNat (Nat.xor x.toNat y.toNat))
 | a,_=>a
def Tx(a b:List EV):List EV:=List.zipWith Bue a b
def Dv.G8(D:Dv)(z off:Int)(p:List EV):Dv:=
 if D.has z=true/\0<=off/\off<(D.zs z.toNat).l.length then D.set z.toNat { D.zs z.toNat with l:=(D.zs z.toNat).l.set off.toNat (Tx (((D.zs z.toNat).l[off.toNat]?).getD Uu) p) }else D
def Dv.Sx(D:Dv)(e:Evt):Dv:=
 if e.kind=1 then D.G8 e.Ai e.off e.pat else if e.kind=2 then D.fail e.Ai 3 else if e.kind=3 then D.fail e.Ai 4 else if e.kind=4 then D.WN else D
def kC:List Evt->Dv->List Evt->J1
 | [],D,k=>⟨D,[],k⟩
 | e::r,D,k=>if D.down=true\/¬e.Ph<=D.cnt then⟨D,e::r,k⟩else kC r (D.Sx e) (k++[e])
def J1.due(S:J1):J1:=kC S.ev S.dv S.Qp
structure J1.Wf(S:J1):Prop where
 ev:S.ev.length+S.Qp.length<=200
 wf:∀e∈S.ev,e.Wf
 hwf:∀e∈S.Qp,e.Wf
structure Af3(h:Ab)(D V M qc qh:Nat)(cs hs:EV)(ms:List (EV × EV))(S:J1)(F G:Nat->Prop):Prop where
 D8:h.get D=some (.cells [.ptr V 0,cs,hs,.map M] 100)
 map:h.get M=some (.map ms)
 marks:Amt ms
 Kb:Ce h cs qc 31 68 S.ev.length (S.ev.map Evt.cells).flatten
 Atp:Ce h hs qh 31 68 S.Qp.length (S.Qp.map Evt.cells).flatten
 dev:Hu h V S.dv F
 sub:(∀i,F i->G i)/\G D/\G M/\(0<S.ev.length->G qc)/\(0<S.Qp.length->G qh)
 apart:¬F D/\¬F M/\(0<S.ev.length->¬F qc)/\(0<S.Qp.length->¬F qh)/\(0<S.ev.length->0<S.Qp.length->qc≠qh)
structure Gj(h:Ab)(D:Nat)(S:J1)(G:Nat->Prop):Prop where
 lt:∀i,G i->i<h.next
 wf:S.Wf
 Ph:∃V M qc qh cs hs ms F,Af3 h D V M qc qh cs hs ms S F G
theorem Af3.mono{D M:Nat}{S:J1}{f:Nat->Prop}(a:Af3 h D V M qc qh cs hs ms S F G)(s:∀i,G i->f i):Af3 h D V M qc qh cs hs ms S F f:=
 ⟨a.D8,a.map,a.marks,a.Kb,a.Atp,a.dev,⟨fun i j=>s i (a.sub.1 i j),s _ a.sub.2.1,s _ a.sub.2.2.1,fun y=>s _ (a.sub.2.2.2.1 y),fun y=>s _ (a.sub.2.2.2.2 y)⟩,a.apart⟩
theorem Gj.mono{D:Nat}{S:J1}{f:Nat->Prop}(d:Gj h D S G)(s:∀i,G i->f i)(l:∀i,f i->i<h.next):Gj h D S f:=by
 obtain⟨V,M,qc,qh,cs,hs,ms,F,a⟩:=d.Ph;exact⟨l,d.wf,V,M,qc,qh,cs,hs,ms,F,a.mono s⟩
theorem Gj.grow{D:Nat}{S:J1}(d:Gj h' D S G)(l:∀i,G i->i<h.next)(n:h.next<=h'.next):Gj h' D S (Bm G h h'):=d.mono (fun _=>.inl) (Bm.lt l n)
theorem Gj.wL{D:Nat}{S:J1}(d:Gj h2 D S (Bm (Bm G h h1) h1 h2))(a:h.next<=h1.next)(b:h1.next<=h2.next)(l:∀i,G i->i<h.next):Gj h2 D S (Bm G h h2):=
 d.mono (fun _=>Bm.trans a b) (Bm.lt l (bQ a b))
theorem Af3.frame{D M:Nat}{S:J1}(a:Af3 h D V M qc qh cs hs ms S F G)(n:h.next<=h'.next)(e:∀i,G i->h'.get i=h.get i):Af3 h' D V M qc qh cs hs ms S F G:=
 ⟨by rw[e _ a.sub.2.1];exact a.D8,by rw[e _ a.sub.2.2.1];exact a.map,a.marks,a.Kb.frame fun y=>e _ (a.sub.2.2.2.1 y),a.Atp.frame fun y=>e _ (a.sub.2.2.2.2 y),a.dev.frame n fun i f=>e i (a.sub.1 i f),a.sub,a.apart⟩
theorem Gj.frame{D:Nat}{S:J1}(d:Gj h D S G)(n:h.next<=h'.next)(e:∀i,G i->h'.get i=h.get i):Gj h' D S G:=by
 obtain⟨V,M,qc,qh,cs,hs,ms,F,a⟩:=d.Ph;exact⟨fun i f=>aM (d.lt i f) n,d.wf,V,M,qc,qh,cs,hs,ms,F,a.frame n e⟩
theorem Gj.chg{D:Nat}{S:J1}{T:Nat->Prop}(d:Gj h D S G)(c:Av T h h')(n:∀i,G i->¬T i):Gj h' D S G:=d.frame c.next fun i f=>c.get i (d.lt i f) (n i f)
theorem Gj.ext{D:Nat}{S:J1}(d:Gj h D S G)(c:Ext h h'):Gj h' D S G:=d.chg c fun _ _=>id
theorem Af3.put{D M:Nat}{S:J1}(a:Af3 h D V M qc qh cs hs ms S F G)(hb:HB h)(d:Hu h' V dv (Bm F h h'))(c:Av F h h'):
 Af3 h' D V M qc qh cs hs ms { S with dv:=dv } (Bm F h h') (Bm G h h'):=by
 have lq:∀{s q n l},Ce h s q 31 68 n l->0<n->q<h.next:=fun r y=>hb _ _ (r.block y)
 have j:∀{i},¬F i->i<h.next->¬Bm F h h' i:=fun y l z=>by
  rcases z with z|z
  ·exact y z
  ·omega
 refine⟨c.at hb a.D8 a.apart.1,c.at hb a.map a.apart.2.1,a.marks,a.Kb.frame fun y=>c.get _ (lq a.Kb y) (a.apart.2.2.1 y),a.Atp.frame fun y=>c.get _ (lq a.Atp y) (a.apart.2.2.2.1 y),d,⟨fun i f=>?_,.inl a.sub.2.1,.inl a.sub.2.2.1,fun y=>.inl (a.sub.2.2.2.1 y),fun y=>.inl (a.sub.2.2.2.2 y)⟩,⟨j a.apart.1 (hb _ _ a.D8),j a.apart.2.1 (hb _ _ a.map),fun y=>j (a.apart.2.2.1 y) (lq a.Kb y),fun y=>j (a.apart.2.2.2.1 y) (lq a.Atp y),a.apart.2.2.2.2⟩⟩;rcases f with f|f
 ·exact .inl (a.sub.1 i f)
 ·exact .inr f
theorem Gj.put{D M:Nat}{S:J1}(s:Gj h D S G)(a:Af3 h D V M qc qh cs hs ms S F G)(hb:HB h)(d:Hu h' V dv (Bm F h h'))(c:Av F h h'):
 Gj h' D { S with dv:=dv } (Bm G h h')/\Av G h h':=
 ⟨⟨Bm.lt s.lt c.next,⟨s.wf.ev,s.wf.wf,s.wf.hwf⟩,V,M,qc,qh,cs,hs,ms,_,a.put hb d c⟩,c.mono a.sub.1⟩
theorem Af3.tO{D M:Nat}{S:J1}(a:Af3 h D V M qc qh cs hs ms S F G)(hm:Amt jo):
 Af3 (h.put M (.map jo)) D V M qc qh cs hs jo S F G:=by
 refine⟨?_,Ae _ _ _,hm,a.Kb.frame fun y=>Af _ ?_,a.Atp.frame fun y=>Af _ ?_,a.dev.frame (aE _) fun i f=>Af _ fun y=>?_,a.sub,a.apart⟩
 ·rw[Af _ (Ba a.map a.D8 (by simp))];exact a.D8
 ·exact Ba a.map (a.Kb.block y) (by simp)
 ·exact Ba a.map (a.Atp.block y) (by simp)
 ·rw[<-y]at f;exact a.apart.2.1 f
theorem Gj.tO{D M:Nat}{S:J1}(s:Gj h D S G)(a:Af3 h D V M qc qh cs hs ms S F G)(hb:HB h)(hm:Amt jo):
 Gj (h.put M (.map jo)) D S G/\Av G h (h.put M (.map jo))/\HB (h.put M (.map jo)):=by
 have f:=hb _ _ a.map;exact⟨⟨s.lt,s.wf,V,M,qc,qh,cs,hs,jo,F,a.tO hm⟩,(Av.refl h).Ar (.inl a.sub.2.2.1) f _,hb.put f _⟩
theorem xj{D M:Nat}{S:J1}(a:Af3 h D V M qc qh cs hs ms S F G):Cw K (.ptr D 0) h=some (.ptr V 0,h):=by simp only[Cw,Aa,Cy a.D8 rfl]
def WR(disp:Nat->Option FT)(K d:Nat)(S:J1):Prop:=∀(h:Ab) (D:Nat) (G:Nat->Prop),Gj h D S G->HB h->Ok (Ag TT disp K d false 91 [.ptr D 0] h) fun v h'=>Gj h' D S.due (Bm G h h')/\Av G h h'/\HB h'
variable {S:J1}
def J1.begin(S:J1)(i:Int):J1:=if S.dv.has i=true then S.due else S
def mJ(disp:Nat->Option FT)(K:Nat)(S:J1):Prop:=∀d,12<=d->WR disp K d S
theorem tW(H:Bu disp){d:Nat}(hd:13<=d){D:Nat}(f:mJ disp K S)(s:Gj h D S G)(hb:HB h)(i:Int):
 Ok (Ag TT disp K d false 109 [.ptr D 0,I i] h) fun v h'=>Gj h' D (S.begin i) (Bm G h h')/\Av G h h'/\HB h':=by
 obtain⟨e,rfl⟩:=d_ d;rw[Apr H a_];obtain⟨V,M,qc,qh,cs,B,ms,F,a⟩:=s.Ph;obtain⟨zl,z,q,b,_⟩:=a.dev.Ph;have fin:Ok (some (.tuple [],h)) fun(_:EV) h'=>Gj h' D S (Bm G h h')/\Av G h h'/\HB h':=.ret ⟨s.grow s.lt (aE _),Av.refl _,hb⟩
 unfold J1.begin;simp only[JL,I,Ac,Aa];by_cases h0:0<=i
 ·have A:=WE (K:=K) b
  simp only[I]at A;simp only[h0,aC,Aa,Cy a.D8 rfl,A,Ac,Uo];by_cases h1:i<S.dv.n
  ·have j:S.dv.has i=true:=aO ⟨h0,h1⟩
   simp only[h1,aC,Aa];rw[j,aI rfl];refine(f e a_ h D G s hb).Am ?_;intro v h' p;exact .ret p
  ·have j:S.dv.has i=false:=aL fun y=>h1 y.2
   simp only[h1,aA,Aa];rw[j,aG (by simp)];exact fin
 ·have j:S.dv.has i=false:=aL fun y=>h0 y.1
  simp only[h0,aA,Aa,Uo];rw[j,aG (by simp)];exact fin
def J1.append(S:J1)(i:Int)(x:List EV):J1 × Int × Int:=({ S.begin i with dv:=((S.begin i).dv.append i x).1 },((S.begin i).dv.append i x).2)
theorem CX(H:Bu disp)(hK:1000<K){d:Nat}(hd:14<=d){D:Nat}(L:mJ disp K S)(s:Gj h D S G)(hb:HB h)(i:Int)(hx:x.length=64)(hu:U8 x):
 Ok (Ag TT disp K d false 164 [.ptr D 0,I i,.agg x] h) fun v h'=>v=.tuple [I (S.append i x).2.1,I (S.append i x).2.2]/\Gj h' D (S.append i x).1 (Bm G h h')/\Av G h h'/\HB h':=by
 obtain⟨e,rfl⟩:=d_ d;rw[An6 H a_];simp only[MB,Aa];have B:Ext h (h.new (.cells x 29)):=Av.new _ _;have O:(h.new (.cells x 29)).get h.next=some (.cells x 29):=Ad _ _
 have C:HB (h.new (.cells x 29)):=hb.new _;have s1:=s.ext B;have n1:(h.new (.cells x 29)).next=h.next+1:=rfl
 generalize h.new (.cells x 29)=h1 at B O C s1 n1⊢;refine(tW (K:=K) H a_ L s1 C i).Am ?_;rintro _ h2 ⟨s2,c2,f⟩;have nx:¬G h.next:=fun y=>bT _ (s.lt _ y)
 have O:=c2.at C O nx;have E:Av G h h2:=(Ext.to B).trans c2;have s2:Gj h2 D (S.begin i) (Bm G h1 h2):=s2;unfold J1.append;generalize S.begin i=T at s2⊢;obtain⟨V,M,qc,qh,cs,Y,ms,F,a⟩:=s2.Ph;have lD:=f _ _ a.D8;have l5:=f _ _ O;simp only[Aa,As,Cq lD,Cy a.D8 rfl,Cq l5,Cz O rfl,Ak hx];refine Ok.bC (S:=F) (A29 (K:=K) a.dev.lift (C8 f) hK i hx hu) (fun _ _ p=>p.2.2.1) ?_;rintro _ h3 h4 s' ⟨rfl,d3,_,aa⟩ sm c4 _;have J:=sm.hb aa;have d4:Hu h4 V (T.dv.append i x).1 (Bm F h2 h4):=by
  have:=d3.frame (h':=h4) (by rw[sm.next];exact aE _) fun j _=>sm.get j
  refine this.mono (fun j hj=>?_) (Bm.lt a.dev.lt c4.next);rcases hj with y|y
  ·exact .inl y
  ·exact .inr ⟨y.1,by rw[sm.next];exact y.2⟩
 have U:=a.put f d4 c4;obtain⟨W,A⟩:=s2.put a f d4 c4;have X:Av G h h4:=by
  refine E.then A fun j hj hl=>?_
  rcases hj with y|y
  ·exact y
  ·have:=B.next;omega
 have W:Gj h4 D { T with dv:=(T.dv.append i x).1 } (Bm G h h4):=W.mono (fun j hj=>by
  rcases hj with(y|y)|y
  ·exact .inl y
  ·have:=B.next;have:=A.next;exact .inr ⟨a_,a_⟩
  ·have:=E.next;exact .inr ⟨a_,y.2⟩) (Bm.lt s.lt X.next)
 simp only[Aa,I,Ac];by_cases hz:(T.dv.append i x).2.2=0
 ·simp only[hz,aC,Aa,Cy U.D8 rfl]
  rw[Ay (l:=[I i,I (T.dv.append i x).2.1]) rfl];obtain⟨jo,e1,ab⟩:=WQ U.map U.marks i (T.dv.append i x).2.1;unfold kp at e1;rw[e1,Au];simp only[S7,dr];obtain⟨V',M',aq,au,aw,af,ag,F',a5⟩:=W.Ph;have lM:=J _ _ U.map;have a6:=U.tO ab;have gM:Bm G h h4 M:=by
   rcases a.sub.2.2.1 with y|y
   ·exact .inl y
   ·have:=B.next;have:=A.next;exact .inr ⟨a_,a_⟩
  have c5:Av (Bm G h h4) h4 (h4.put M (.map jo)):=(Av.refl h4).Ar (.inl gM) lM _;refine .ret ⟨rfl,⟨Bm.lt s.lt (X.grow c5).next,W.wf,V,M,qc,qh,cs,Y,jo,_,a6.mono fun j hj=>?_⟩,X.grow c5,J.put lM _⟩;show Bm G h h4 j;rcases hj with(y|y)|y
  ·exact .inl y
  ·have:=B.next;have:=A.next;exact .inr ⟨a_,a_⟩
  ·have:=E.next;exact .inr ⟨a_,y.2⟩
 ·simp only[hz,aA,Aa,S7]
  exact .ret ⟨rfl,W,X,J⟩
def J1.read(S:J1)(i off:Int):J1 × List EV × Int:=({ S.begin i with dv:=(S.begin i).dv.begin i },(S.begin i).dv.read i off)
theorem VF(H:Bu disp){d:Nat}(hd:14<=d){D:Nat}(E:mJ disp K S)(s:Gj h D S G)(hb:HB h)(i off:Int):
 Ok (Ag TT disp K d false 77 [.ptr D 0,I i,I off] h) fun v h'=>v=.tuple [.agg (S.read i off).2.1,I (S.read i off).2.2]/\(S.read i off).2.1.length=64/\Gj h' D (S.read i off).1 (Bm G h h')/\Av G h h'/\HB h':=by
 obtain⟨e,rfl⟩:=d_ d;rw[Asb H a_];simp only[LQ,Aa];have J:Ext h (h.new (.cells (List.replicate 64 (.int .u8 0)) 29)):=Av.new _ _;have B:(h.new (.cells (List.replicate 64 (.int .u8 0)) 29)).get h.next=some (.cells Uu 29):=Ad _ _
 have f:HB (h.new (.cells (List.replicate 64 (.int .u8 0)) 29)):=hb.new _;have s1:=s.ext J;generalize h.new (.cells (List.replicate 64 (.int .u8 0)) 29)=h1 at J B f s1⊢;refine(tW (K:=K) H a_ E s1 f i).Am ?_;rintro _ h2 ⟨s2,c2,A⟩;have nx:¬G h.next:=fun y=>bT _ (s.lt _ y)
 have B:=c2.at f B nx;have l6:h.next<h1.next:=by
  have:=A _ _ B;rcases dQ h.next h1.next with y|y
  ·exact y
  ·exact absurd (f _ _ (show h1.get h.next=some (.cells Uu 29) by assumption)) a_
 have L:Av G h h2:=(Ext.to J).trans c2;unfold J1.read;generalize S.begin i=T at s2⊢;obtain⟨V,M,qc,qh,cs,Y,ms,F,a⟩:=s2.Ph;simp only[Aa,Cy a.D8 rfl];refine(Ba7 (K:=K) a.dev A i off).Am ?_;rintro _ W ⟨rfl,hlen,d3,c3,O⟩;obtain⟨s3,C⟩:=s2.put a A d3 c3;have X:¬Bm G h1 h2 h.next:=by
  rintro(y|y)
  ·exact nx y
  ·omega
 have B:=C.at A B X;have U:=O _ _ B;simp only[Aa];refine Ok.st (T.dv.read i off).1 B rfl (by rw[show EV.cells (.agg (T.dv.read i off).1)=(T.dv.read i off).1 from rfl,Bg,hlen]) (Bo (by rw[K8];exact hlen.symm)) ?_;rw[Em (Ae _ _ _) kR.1 kR.2 hlen];have cc:Av G h W:=by
  refine L.then C fun j hj hl=>?_
  rcases hj with y|y
  ·exact y
  ·have:=J.next;omega
 have c4:Av G h (W.put h.next (.cells (T.dv.read i off).1 29)):=cc.Ar (.inr (aE _)) U _;refine .ret ⟨rfl,hlen,?_,c4,O.put U _⟩;refine Gj.mono (s3.frame (h':=W.put h.next (.cells (T.dv.read i off).1 29)) (aE _) fun j hj=>Af _ fun y=>?_) (fun j hj=>?_) (Bm.lt s.lt c4.next)
 ·subst y
  rcases hj with y|y
  ·exact X y
  ·have:=c2.next;omega
 ·show Bm G h W j
  rcases hj with(y|y)|y
  ·exact .inl y
  ·have:=J.next;have:=C.next;exact .inr ⟨a_,a_⟩
  ·have:=L.next;exact .inr ⟨a_,y.2⟩
def J1.flush(S:J1):J1 × Int:=({ S.due with dv:=S.due.dv.flush.1 },S.due.dv.flush.2)
theorem CW(H:Bu disp)(hK:1000<K){d:Nat}(hd:14<=d){D:Nat}(f:mJ disp K S)(s:Gj h D S G)(hb:HB h):
 Ok (Ag TT disp K d false 61 [.ptr D 0] h) fun v h'=>v=I S.flush.2/\Gj h' D S.flush.1 (Bm G h h')/\Av G h h'/\HB h':=by
 obtain⟨e,rfl⟩:=d_ d;rw[Aoq H a_];simp only[LP,dr];refine(f e a_ h D G s hb).Am ?_;rintro _ h2 ⟨s2,c2,j⟩;unfold J1.flush;generalize S.due=T at s2⊢;obtain⟨V,M,qc,qh,cs,B,ms,F,a⟩:=s2.Ph;simp only[Aa,Cy a.D8 rfl];refine(A7t (K:=K) a.dev j hK).Am ?_;rintro _ E ⟨rfl,d3,c3,A⟩;obtain⟨C,y⟩:=s2.put a j d3 c3;exact .ret ⟨rfl,C.wL c2.next y.next s.lt,c2.grow y,A⟩
def J1.finish(S:J1)(i:Int):J1 × Int:=({ S.begin i with dv:=((S.begin i).dv.finish i).1 },((S.begin i).dv.finish i).2)
theorem CV(H:Bu disp){d:Nat}(hd:14<=d){D:Nat}(f:mJ disp K S)(s:Gj h D S G)(hb:HB h)(i:Int):
 Ok (Ag TT disp K d false 166 [.ptr D 0,I i] h) fun v h'=>v=I (S.finish i).2/\Gj h' D (S.finish i).1 (Bm G h h')/\Av G h h'/\HB h':=by
 obtain⟨e,rfl⟩:=d_ d;rw[Aob H a_];simp only[MC,dr];refine(tW (K:=K) H a_ f s hb i).Am ?_;rintro _ h2 ⟨s2,c2,j⟩;unfold J1.finish;generalize S.begin i=T at s2⊢;obtain⟨V,M,qc,qh,cs,B,ms,F,a⟩:=s2.Ph;simp only[Aa,Cy a.D8 rfl];refine(A3s (K:=K) a.dev j i).Am ?_;rintro _ E ⟨rfl,d3,c3,A⟩;obtain⟨C,y⟩:=s2.put a j d3 c3;exact .ret ⟨rfl,C.wL c2.next y.next s.lt,c2.grow y,A⟩
theorem YF {D:Nat}(z:Int):∀(m i:Nat) (h:Ab),S.dv.size-i<m->Gj h D S G->HB h ->
 Ok (J7 K m (.ptr D 0) (I z) (I i) h) fun v h'=>Gj h' D S G/\Av G h h'/\HB h':=by
 intro m;induction m with
 | zero=>intro i h hm;omega
 | succ m C=>
  intro i h hm s hb;obtain⟨V,M,qc,qh,cs,E,ms,F,a⟩:=s.Ph;obtain⟨zl,O,q,b,_⟩:=a.dev.Ph;have f:=WG (K:=K) b;have J:S.dv.size<=64:=a.dev.wf.size;simp only[I]at f;simp only[J7,Aa,Cy a.D8 rfl,f,I,Ac];by_cases j:(i:Int)<S.dv.size
  ·simp only[j,aC,Aa,IJ,Cy a.D8 rfl]
   rw[Ay (l:=[I z,I i]) rfl];obtain⟨jo,e1,y⟩:=WQ a.map a.marks z i;unfold kp at e1;rw[e1,Au];simp only[II,I,Ac];rw[Ch];obtain⟨s2,c2,A⟩:=s.tO a hb y;refine(C (i+1) _ a_ s2 A).mono ?_;rintro v h' ⟨L,c3,B⟩;exact⟨L,c2.trans c3,B⟩
  ·simp only[j,aA,Aa]
   exact .ret ⟨s,Av.refl _,hb⟩
end
end Go.Ev
