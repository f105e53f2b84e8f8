import Derived.Test.YtoihakbgidodkaaGreatDa
set_option linter.all false
namespace Go.Ev
noncomputable section
open Go.Proofs
set_option maxRecDepth 100000
variable {k:EV->Ab->DX->R}{ex:Nat->Ab->List Nat->R}{h h' h0 h1 h2:Ab}{a cnt gT:Int}{K V e i n t b2 b3 b4 d0 l0 q' qc qh ql zl cap:Nat}{o:Ds}{T:Ij}{down:Bool}{ps:Nat->List Int}{v Gh cs hs happened:EV}{ms iS marks:List (EV × EV)}{x:List EV}{xs:List Int}{tm iG:Ay}{F G:Nat->Prop}{disp:Nat->Option FT}
section
def Aw(T:Ij)(g n i:Nat)(tm:Ay)(st:LoopState)(p:Option Code)(d:Nat):Ds:=.loop st p g n tm (Fa T g i).2.1 (Fa T g i).2.2.1 (Fa T g i).2.2.2 d
def Cd(T:Ij)(g n i:Nat)(tm:Ay)(h:Ab):Ab:=(h.new (.deferred true)).new (Aw T g n i tm .ready none h.next)
section
variable{g l d:Nat}{st:LoopState}{p:Option Code}{Q:EV->Ab->Prop}
theorem Ju:(Cd T g n i tm h).get (h.next+1)=some (Aw T g n i tm .ready none h.next):=Ad _ _
theorem La:(Cd T g n i tm h).get h.next=some (.deferred true):=by
 unfold Cd;rw[Ba _ (aT _)];exact Ad _ _
theorem Jd:Ext h (Cd T g n i tm h):=(As.new _ _).Dn _
theorem Az9:(Cd T g n i tm h).next=h.next+2:=rfl
theorem Zg {kk:Ab->R}(f:h.get l=some (Aw T g n i tm .ready p d)):D8 l h kk=kk (h.put l (Aw T g n i tm .busy p d)):=by
 unfold D8;rw[f];rfl
theorem Rc {b:Bool}{st':LoopState}{j:Option Code}(f:h.get l=some (Aw T g n i tm st p d)):X5 l b st' j h=some (.bool b,h.put l (Aw T g n i tm st' j d)):=by
 unfold X5;rw[f];rfl
theorem Ok.range {c:Ah}{q:Nat}{f:List EV}{ds:List Nat}{k:Ab->List Nat->R}{ret:Ab->List Nat->R}
 (hc:Ok (c q (.Vh (h.next+1)::f) (Cd T g n i tm h)) fun _ h'=>
  (h'.get (h.next+1)=some (Aw T g n i tm .ready none h.next)/\Ok (k (h'.put (h.next+1) (Aw T g n i tm .exhausted none h.next)) (h.next::ds)) Q) \/
  (h'.get (h.next+1)=some (Aw T g n i tm .done (some .ret) h.next)/\Ok (ret (h'.put (h.next+1) (Aw T g n i tm .exhausted (some .ret) h.next)) (h.next::ds)) Q)) :
 Ok (Yk c T g n i (.func q [] f) tm h ds k ex ret) Q:=by
 obtain⟨v,h',e,j⟩:=hc;have:Yk c T g n i (.func q [] f) tm h ds k ex ret=mP (h.next+1) (c q (.Vh (h.next+1)::f) (Cd T g n i tm h)) (fun h'=>k h' (h.next::ds)) (fun id h'=>ex id h' (h.next::ds)) (fun h'=>ret h' (h.next::ds)):=rfl;rw[this,e];unfold mP;simp only;rcases j with⟨a,b⟩|⟨a,b⟩
 ·rw[a];exact b
 ·rw[a];exact b
theorem Ok.unwind:∀{ds:List Nat} {h:Ab} {k:Ab->R},ds.Nodup->(∀d∈ds,h.get d=some (.deferred true))->HB h->(∀h',As (fun i=>i∈ds) h h'->h'.next=h.next->Ok (k h') Q)->Ok (Fv ds h k) Q
 | [],h,k,_,_,_,hk=>hk h (As.refl _) rfl
 | d::ds,h,k,hn,hd,hb,hk=>by
  obtain⟨j,A⟩:=cA.1 hn;have f:=hd d aQ;have ld:=hb _ _ f;have e:Fv (d::ds) h k=Fv ds (h.put d (.deferred false)) k:=by
   show(match h.get d with|some (.deferred true)=>Fv ds (h.put d (.deferred false)) k|_=>none)=_;rw[f]
  rw[e];refine Ok.unwind A (fun x B=>?_) (hb.put ld _) fun h' c n=>hk h' ?_ (by rw[n];rfl)
  ·rw[Af _ (fun y=>j (by rw[y];exact B))];exact hd x (aP _ B)
  ·exact((As.refl h).Aq (S:=fun i=>i∈d::ds) (.inl aQ) ld _).trans (c.mono fun i hi=>aP _ hi)
end
structure Kp(S:Nat->Prop)(h0 h:Ab):Prop where
 chg:As S h0 h
 same:∀i,i<h0.next->h.get i=h0.get i
theorem Kp.refl {S:Nat->Prop}(h:Ab):Kp S h h:=⟨As.refl _,fun _ _=>rfl⟩
theorem Ext.kp {S:Nat->Prop}(x:Ext h0 h):Kp S h0 h:=⟨Ext.to x,fun i hi=>x.get i hi id⟩
theorem Kp.trans {S:Nat->Prop}{a b c:Ab}(x:Kp S a b)(y:Kp S b c):Kp S a c:=⟨x.chg.trans y.chg,fun i hi=>by rw[y.same i (aL hi x.chg.next),x.same i hi]⟩
theorem Kp.Aq {S:Nat->Prop}(x:Kp S h0 h)(hi:h0.next<=i)(hn:i<h.next)(o:Ds):Kp S h0 (h.put i o):=
 ⟨x.chg.Aq (.inr hi) hn o,fun j hj=>by rw[Af _];exact x.same j hj⟩
theorem Kp.at {S:Nat->Prop}(x:Kp S h0 h)(hb:HB h0)(g:h0.get i=some o):h.get i=some o:=by rw[x.same i (hb _ _ g)];exact g
theorem Kp.sw {S T:Nat->Prop}{a b c:Ab}(x:Kp S a b)(y:As T b c)(st:∀i,T i->a.next<=i):Kp S a c:=
 ⟨x.chg.then y fun i hi j=>by have:=st i hi;omega,fun i hi=>by rw[y.get i (aL hi x.chg.next) fun f=>by have:=st i f;omega,x.same i hi]⟩
end
section
structure Gm where
 D:Int
 Z:Int
 S:Int
 B:Int
 P:Int
 O:Int
def gL(g:Gm):List EV:=[I g.D,I g.Z,I g.S,I g.B,I g.P,I g.O]
def gV(g:Gm):EV:=.agg (gL g)
def Gm.parts(g:Gm):Int:=1+(g.B+1)/2
def Gm.nr(g:Gm):Int:=g.D*g.P+4
def Gm.least(g:Gm):Int:=min ((g.D-1)*(g.Z-g.P-2)-g.nr+1) (g.D*(g.Z-g.P-2)-2*g.nr+1)
def Gm.segments(g:Gm):Int:=g.least/2-1-g.D*g.P
def wi(n a b:Int):Bool:=decide (a<=n)&&decide (n<=b)
theorem Gd {n b:Int}:wi n a b=true↔a<=n/\n<=b:=by simp[wi]
def j_(g:Gm):Bool:=wi g.D 3 8&&wi g.Z 1 64&&wi g.S 4 64&&wi g.B 1 256&&wi g.P 0 4&&wi g.O 4 64
def rtB(g:Gm):Bool:=j_ g&&(decide (g.parts<=g.S)&&decide (2*g.B<=g.S*g.segments))
structure Sm(g:Gm):Prop where
 d0:3<=g.D
 d1:g.D<=8
 z0:1<=g.Z
 z1:g.Z<=64
 s0:4<=g.S
 s1:g.S<=64
 b0:1<=g.B
 b1:g.B<=256
 p0:0<=g.P
 p1:g.P<=4
 o0:4<=g.O
 o1:g.O<=64
theorem U7 {g:Gm}(h:j_ g=true):Sm g:=by
 simp only[j_,aX,Gd]at h;exact⟨h.1.1.1.1.1.1,h.1.1.1.1.1.2,h.1.1.1.1.2.1,h.1.1.1.1.2.2,h.1.1.1.2.1,h.1.1.1.2.2,h.1.1.2.1,h.1.1.2.2,h.1.2.1,h.1.2.2,h.2.1,h.2.2⟩
theorem Qu {g:Gm}(h:rtB g=true):Sm g:=U7 (by unfold rtB at h;exact((aX _ _).mp h).1)
theorem Nz {b A B:Int}(h0:0<=a:=by omega)(h1:a<=A:=by omega)(h2:0<=b:=by omega)(f:b<=B:=by omega):0<=a*b/\a*b<=A*B:=
 ⟨Int.mul_nonneg h0 h2,Int.mul_le_mul h1 f h2 (Int.le_trans h0 h1)⟩
theorem uJ {b A B:Int}(h0:0<=a:=by omega)(h1:a<=A:=by omega)(h2 : -B<=b:=by omega)(f:b<=B:=by omega)(j:0<=B:=by omega): -(A*B)<=a*b/\a*b<=A*B:=by
 have e1:a*b<=a*B:=dZ f h0;have e2:a*B<=A*B:=Int.mul_le_mul_of_nonneg_right h1 j;have e3:a*(-B)<=a*b:=dZ h2 h0;rw[Int.mul_neg]at e3;omega
theorem Brj{k:EV->R}:im (bin T .shr t) (.int .i64 a) (.int .u64 1) k=k (.int .i64 (a/2)):=by
 cases a with
 | ofNat a=>
  show k (.int .i64 (.ofNat (Nat.shiftRight a 1)))=_;rw[show Nat.shiftRight a 1=a/2 from Nat.shiftRight_succ a 0];rfl
 | negSucc a=>
  show k (.int .i64 ((Int.negSucc a).fdiv (.ofNat 2)))=_;rw[fJ _ c_];rfl
theorem Boq(a b:Int):j6 a b=decide (a<b):=by rw[<-wJ,qx]
theorem min2{f:Array TypeId}{b:Int}:builtin T .min f [.int .i64 a,.int .i64 b] h=some (.int .i64 (min a b),h):=by
 simp only[builtin,hQ,Bo,Boq];rw[Bnt];by_cases h1:b<a
 ·rw[aK h1,Int.min_eq_right a_]
 ·rw[aH h1,Int.min_eq_left a_]
theorem x_(n a b:Int)(h:Ab):K9 K (I n) (I a) (I b) h=some (.bool (wi n a b),h):=by
 simp only[K9,GD,I,Ac,Bqp];by_cases h1:a<=n
 ·simp only[h1,aB,Aj,dz,FV,wi,bG]
 ·simp only[h1,aA,Bo,dz,FV,wi,a8]
theorem A1f(g:Gm)(h:Ab):U0 K (gV g) h=some (.bool (j_ g),h.new (.cells (gL g) 23)):=by
 simp only[U0,gV,Aa];have f:(h.new (.cells (gL g) 23)).get h.next=some (.cells (gL g) 23):=Ad _ _
 generalize h.new (.cells (gL g) 23)=h1 at f⊢;have w:=fun n a b=>x_ (K:=K) n a b h1
 simp only[I]at w;simp only[Aa,Cx f rfl,gL,I,w,Ac];unfold j_;cases wi g.D 3 8 with
 | false=>simp only[Aa,Ac,G6,G3,G8,G9,G7,a8]
 | true=>
 simp only[Aa,Cx f rfl,gL,I,w,Ac,G6];cases wi g.Z 1 64 with
 | false=>simp only[Aa,Ac,G6,G3,G8,G9,G7,a8,eC]
 | true=>
 simp only[Aa,Cx f rfl,gL,I,w,Ac,G3];cases wi g.S 4 64 with
 | false=>simp only[Aa,Ac,G6,G3,G8,G9,G7,a8,eC]
 | true=>
 simp only[Aa,Cx f rfl,gL,I,w,Ac,G8];cases wi g.B 1 256 with
 | false=>simp only[Aa,Ac,G6,G3,G8,G9,G7,a8,eC]
 | true=>
 simp only[Aa,Cx f rfl,gL,I,w,Ac,G9];cases wi g.P 0 4 with
 | false=>simp only[Aa,Ac,G6,G3,G8,G9,G7,a8,eC]
 | true=>
 simp only[Aa,Cx f rfl,gL,I,w,Ac,G7,bG]
theorem zc {g:Gm}(s:Sm g)(h:Ab):Qd K (gV g) h=some (I g.parts,h.new (.cells (gL g) 23)):=by
 have:=s.b0;have:=s.b1;simp only[Qd,gV,Aa];have f:(h.new (.cells (gL g) 23)).get h.next=some (.cells (gL g) 23):=Ad _ _
 generalize h.new (.cells (gL g) 23)=h1 at f⊢;simp only[Aa,Cx f rfl,gL,I,Ac];rw[Cn (n:=g.B+2),Cn (n:=g.B+2-1),qv a_ a_ a_];simp only[Ac];rw[Cn];rw[show 1+(g.B+2-1)/2=g.parts by unfold Gm.parts;rw[show g.B+2-1=g.B+1 from a_]]
theorem DW {g:Gm}(s:Sm g)(h:Ab):My K (gV g) h=some (I g.nr,h.new (.cells (gL g) 23)):=by
 have:=s.d0;have:=s.d1;have:=s.p0;have:=s.p1;obtain⟨j,y⟩:=Nz (a:=g.D) (b:=g.P) (A:=8) (B:=4);simp only[My,gV,Aa];have f:(h.new (.cells (gL g) 23)).get h.next=some (.cells (gL g) 23):=Ad _ _
 generalize h.new (.cells (gL g) 23)=h1 at f⊢;simp only[Aa,Cx f rfl,gL,I,Ac];rw[Cn (n:=g.D*g.P),Cn];rfl
theorem No {g:Gm}(s:Sm g)(h:Ab):Dq K (gV g) h=some (I (g.D*g.Z),h.new (.cells (gL g) 23)):=by
 have:=s.d0;have:=s.d1;have:=s.z0;have:=s.z1;obtain⟨j,y⟩:=Nz (a:=g.D) (b:=g.Z) (A:=8) (B:=64);simp only[Dq,gV,Aa];have f:(h.new (.cells (gL g) 23)).get h.next=some (.cells (gL g) 23):=Ad _ _
 generalize h.new (.cells (gL g) 23)=h1 at f⊢;simp only[Aa,Cx f rfl,gL,I,Ac];rw[Cn (n:=g.D*g.Z)]
theorem Sm.ya {g:Gm}(s:Sm g):(0<=g.D*g.P/\g.D*g.P<=32)/\(-640<=(g.D-1)*(g.Z-g.P-2)/\(g.D-1)*(g.Z-g.P-2)<=640)/\(-640<=g.D*(g.Z-g.P-2)/\g.D*(g.Z-g.P-2)<=640):=by
 have:=s.d0;have:=s.d1;have:=s.p0;have:=s.p1;have:=s.z0;have:=s.z1;obtain⟨a0,f⟩:=Nz (a:=g.D) (b:=g.P) (A:=8) (B:=4);obtain⟨b0,b1⟩:=uJ (a:=g.D-1) (b:=g.Z-g.P-2) (A:=10) (B:=64);obtain⟨j,c1⟩:=uJ (a:=g.D) (b:=g.Z-g.P-2) (A:=10) (B:=64);omega
theorem Avp {g:Gm}(s:Sm g)(h:Ab):Ok (Pb K (gV g) h) fun v h'=>v=I g.segments/\Ext h h':=by
 obtain⟨⟨a0,L⟩,⟨b0,b1⟩,O,c1⟩:=s.ya;have:=s.d0;have:=s.d1;have:=s.p0;have:=s.p1;have:=s.z0;have:=s.z1;simp only[Pb,gV,Aa];have j:(h.new (.cells (gL g) 23)).get h.next=some (.cells (gL g) 23):=Ad _ _
 have hn:h.next<(h.new (.cells (gL g) 23)).next:=aT _
 have y:Ext h (h.new (.cells (gL g) 23)):=As.new _ _;generalize h.new (.cells (gL g) 23)=h1 at j hn y⊢;simp only[Aa,Au,Cp hn,Cx j rfl,Cz j rfl,Ak (show(gL g).length=6 from rfl),gL,I,Ac];rw[Cn (n:=g.Z-g.P),Cn (n:=g.Z-g.P-2)];refine Ok.bE (P:=fun v h2=>v=I g.nr/\Ext h1.lift h2) ⟨_,_,DW s _,rfl,As.new _ _⟩ (fun _ _ p=>p.2) ?_;rintro _ h2 B ⟨rfl,_⟩ _ A;have f:B.get h.next=some (.cells (gL g) 23):=by rw[A.get _ hn id];exact j
 simp only[Aa,Cx f rfl,gL,I,Ac];unfold Gm.nr;rw[Cn (n:=g.D-1),Cn (n:=(g.D-1)*(g.Z-g.P-2)),Cn (n:=(g.D-1)*(g.Z-g.P-2)-(g.D*g.P+4)),Cn (n:=(g.D-1)*(g.Z-g.P-2)-(g.D*g.P+4)+1),
  Cn (n:=g.D*(g.Z-g.P-2)),Cn (n:=2*(g.D*g.P+4)),Cn (n:=g.D*(g.Z-g.P-2)-2*(g.D*g.P+4)),Cn (n:=g.D*(g.Z-g.P-2)-2*(g.D*g.P+4)+1),
  min2,Ar,Brj]
 simp only[Ac,Aa,Cx f rfl,gL,I];have C:g.least=min ((g.D-1)*(g.Z-g.P-2)-(g.D*g.P+4)+1) (g.D*(g.Z-g.P-2)-2*(g.D*g.P+4)+1):=rfl;rw[<-C];have E : -10000<=g.least:=a_
 have J:g.least<=10000:=a_
 rw[Cn (n:=g.least/2-1),Cn (n:=g.D*g.P),Cn (n:=g.least/2-1-g.D*g.P)];exact .ret ⟨rfl,y.trans A⟩
end
theorem QP {g:Gm}(s:Sm g): -2000<=g.segments/\g.segments<=2000:=by
 obtain⟨⟨a0,f⟩,⟨b0,b1⟩,j,c1⟩:=s.ya;have y:g.least=min ((g.D-1)*(g.Z-g.P-2)-(g.D*g.P+4)+1) (g.D*(g.Z-g.P-2)-2*(g.D*g.P+4)+1):=rfl;have hs:g.segments=g.least/2-1-g.D*g.P:=rfl;omega
theorem Z9(g:Gm)(h:Ab):Ok (Mq K (gV g) h) fun v h'=>v=.bool (rtB g)/\Ext h h':=by
 simp only[Mq,gV,Aa];have y:(h.new (.cells (gL g) 23)).get h.next=some (.cells (gL g) 23):=Ad _ _
 have hn:h.next<(h.new (.cells (gL g) 23)).next:=aT _
 have E:Ext h (h.new (.cells (gL g) 23)):=As.new _ _;generalize h.new (.cells (gL g) 23)=h1 at y hn E⊢;simp only[Aa,Au,Cp hn,Cx y rfl,Cz y rfl,Ak (show(gL g).length=6 from rfl)];refine Ok.bE (P:=fun v h2=>v=.bool (j_ g)/\Ext h1.lift h2) ⟨_,_,A1f g _,rfl,As.new _ _⟩ (fun _ _ p=>p.2) ?_;rintro _ h2 L ⟨rfl,_⟩ _ J;have C:L.get h.next=some (.cells (gL g) 23):=by rw[J.get _ hn id];exact y
 unfold rtB;cases hs:j_ g with
 | false=>simp only[Aa,Ac,P7,L0,a8];exact .ret ⟨rfl,E.trans J⟩
 | true=>
 have s:=U7 hs;have:=s.b0;have:=s.b1;simp only[Aa,Ac,Au,Cp hn,Cx C rfl,Cz C rfl,Ak (show(gL g).length=6 from rfl),bG];refine Ok.bE (P:=fun v h4=>v=I g.parts/\Ext L.lift h4) ⟨_,_,zc s _,rfl,As.new _ _⟩ (fun _ _ p=>p.2) ?_;rintro _ h4 U ⟨rfl,_⟩ _ W;have f:=J.trans W;have j:U.get h.next=some (.cells (gL g) 23):=by rw[f.get _ hn id];exact y
 simp only[Aa,Ac,Au,Cp hn,Cx j rfl,gL,I,P7];by_cases O:g.parts<=g.S
 ·simp only[O,aB,Aa,Au,Cp hn,Cx j rfl,Cz j rfl,Ak (show(gL g).length=6 from rfl),gL,I,Ac,bG]
  refine Ok.bE (Avp s _) (fun _ _ p=>p.2) ?_;rintro _ Y h7 ⟨rfl,_⟩ _ X;obtain⟨t0,t1⟩:=QP s;have:=s.s0;have:=s.s1;obtain⟨m0,m1⟩:=uJ (a:=g.S) (b:=g.segments) (A:=64) (B:=2000);simp only[Ac,I,L0,Aa];rw[Cn (n:=2*g.B),Cn (n:=g.S*g.segments)];exact .ret ⟨rfl,E.trans (f.trans X)⟩
 ·simp only[O,aA,Aa,Ac,L0,a8]
  exact .ret ⟨rfl,E.trans f⟩
theorem Bmy {n:Int}(h0 : -100000<=n)(h1:n<=100000)(h:Ab):Oc K (I n) h=some (I (n/2),h):=by
 simp only[Oc,I,Ac,Aa];by_cases hn:n<0
 ·simp only[hn,aB,Aa,Ac]
  rw[Cn,qv a_ a_ a_];simp only[ξ];rw[Cn,show 0-(1-n)/2=n/2 from a_]
 ·simp only[hn,aA,Aa,X7]
  rw[qv a_ a_ a_]
theorem A6v {g:Gm}(s:Sm g){a:Nat}(j:h.get a=some (.cells (gL g) 92)):∀(m:Nat) (i:Int),0<=i->(g.B-i).toNat<m->i<=g.B+1->i%2=0 ->
 Gc K m (.ptr a 0) (I (1+i/2)) (I i) h=some (I g.parts,h):=by
 have:=s.b0;have:=s.b1;intro m;induction m with
 | zero=>intro i _ hm;omega
 | succ m y=>
  intro i hi hm hle A;simp only[Gc,Aa,Ac,Cx j rfl,gL,I];by_cases f:i<g.B
  ·simp only[f,aB,Aa,Ac,Ty,Tw]
   rw[Cn (n:=1+i/2+1),Cn (n:=i+2),show 1+i/2+1=1+(i+2)/2 from a_];exact y (i+2) a_ a_ a_ a_
  ·simp only[f,aA,Aa,T4]
   unfold Gm.parts;rw[show 1+i/2=1+(g.B+1)/2 from a_]
theorem Bgs {g:Gm}(s:Sm g)(hK:1000<K)(h:Ab):K6 K (gV g) h=some (I g.parts,h.new (.cells (gL g) 92)):=by
 have:=s.b0;have:=s.b1;simp only[K6,gV,Aa];exact A6v s (Ad _ _) K 0 a_ a_ a_ a_
theorem A5v {g:Gm}(s:Sm g)(h:Ab):Ok (Io K (gV g) h) fun v h'=>v=I g.segments/\Ext h h':=by
 obtain⟨⟨a0,E⟩,⟨b0,b1⟩,J,c1⟩:=s.ya;have:=s.d0;have:=s.d1;have:=s.p0;have:=s.p1;have:=s.z0;have:=s.z1;simp only[Io,gV,Aa];have j:(h.new (.cells (gL g) 92)).get h.next=some (.cells (gL g) 92):=Ad _ _
 have hn:h.next<(h.new (.cells (gL g) 92)).next:=aT _
 have A:Ext h (h.new (.cells (gL g) 92)):=As.new _ _;generalize h.new (.cells (gL g) 92)=h1 at j hn A⊢;have L:g.least=min ((g.D-1)*(g.Z-g.P-2)-(g.D*g.P+4)+1) (g.D*(g.Z-g.P-2)-2*(g.D*g.P+4)+1):=rfl;have fin:∀n,n=g.least->Ok (Ka K (.ptr h.next 0) (I n) h1) fun v h'=>v=I g.segments/\Ext h h':=by
  rintro _ rfl;simp only[Ka,Aa];refine Ok.bE (P:=fun v h2=>v=I (g.least/2)/\Ext h1.lift h2) ⟨_,_,Bmy a_ a_ _,rfl,As.refl _⟩ (fun _ _ p=>p.2) ?_;rintro _ h2 C ⟨rfl,_⟩ _ B;have y:C.get h.next=some (.cells (gL g) 92):=by rw[B.get _ hn id];exact j
  simp only[Aa,Au,Cp hn,Cx y rfl,gL,I,Ac];rw[Cn (n:=g.least/2-1),Cn (n:=g.D*g.P),Cn (n:=g.least/2-1-g.D*g.P)];exact .ret ⟨rfl,A.trans B⟩
 simp only[Aa,Cx j rfl,gL,I,Ac];rw[Cn (n:=g.Z-g.P),Cn (n:=g.Z-g.P-2),Cn (n:=g.D*g.P),Cn (n:=g.D*g.P+4),
  Cn (n:=g.D-1),Cn (n:=(g.D-1)*(g.Z-g.P-2)),Cn (n:=(g.D-1)*(g.Z-g.P-2)-(g.D*g.P+4)),Cn (n:=(g.D-1)*(g.Z-g.P-2)-(g.D*g.P+4)+1),
  Cn (n:=g.D*(g.Z-g.P-2)),Cn (n:=2*(g.D*g.P+4)),Cn (n:=g.D*(g.Z-g.P-2)-2*(g.D*g.P+4)),Cn (n:=g.D*(g.Z-g.P-2)-2*(g.D*g.P+4)+1)]
 by_cases f:g.D*(g.Z-g.P-2)-2*(g.D*g.P+4)+1<(g.D-1)*(g.Z-g.P-2)-(g.D*g.P+4)+1
 ·simp only[f,aB,Aa]
  exact fin _ a_
 ·simp only[f,aA,Aa]
  exact fin _ a_
theorem ZN(g:Gm)(hK:1000<K)(h:Ab):Ok (Hz K (gV g) h) fun v h'=>v=.bool (rtB g)/\Ext h h':=by
 simp only[Hz,gV,Aa];have j:(h.new (.cells (gL g) 92)).get h.next=some (.cells (gL g) 92):=Ad _ _
 have hn:h.next<(h.new (.cells (gL g) 92)).next:=aT _
 have C:Ext h (h.new (.cells (gL g) 92)):=As.new _ _;generalize h.new (.cells (gL g) 92)=h1 at j hn C⊢;have no:∀b,b=false->Ok (some (.bool false,h1)) fun v h'=>v=.bool (b&&(decide (g.parts<=g.S)&&decide (2*g.B<=g.S*g.segments)))/\Ext h h':=by
  rintro _ rfl;exact .ret ⟨by rw[a8],C⟩
 unfold rtB;have f:∀{p:Prop} [Decidable p],¬p->(j_ g=true->p)->j_ g=false:=fun E hq=>by
  cases hb:j_ g with
  | false=>rfl
  | true=>exact absurd (hq hb) E
 simp only[Aa,Cx j rfl,gL,I,Ac];by_cases c1:g.D<3
 ·simp only[c1,aB,Aa,Ac,Hs,F4,Ep,D4,Dg,Cy,Cs,Ch,Bz,Bu,Br]
  exact no _ (f (p:=¬g.D<3) (by simpa using c1) fun hb=>by have:=(U7 hb).d0;omega)
 simp only[c1,aA,Aa,Ac,Cx j rfl,gL,I,Hs];by_cases c2:8<g.D
 ·simp only[c2,aB,Aa,Ac,F4,Ep,D4,Dg,Cy,Cs,Ch,Bz,Bu,Br]
  exact no _ (f (p:=¬8<g.D) (by simpa using c2) fun hb=>by have:=(U7 hb).d1;omega)
 simp only[c2,aA,Aa,Ac,Cx j rfl,gL,I,F4];by_cases c3:g.Z<1
 ·simp only[c3,aB,Aa,Ac,Ep,D4,Dg,Cy,Cs,Ch,Bz,Bu,Br]
  exact no _ (f (p:=¬g.Z<1) (by simpa using c3) fun hb=>by have:=(U7 hb).z0;omega)
 simp only[c3,aA,Aa,Ac,Cx j rfl,gL,I,Ep];by_cases c4:64<g.Z
 ·simp only[c4,aB,Aa,Ac,D4,Dg,Cy,Cs,Ch,Bz,Bu,Br]
  exact no _ (f (p:=¬64<g.Z) (by simpa using c4) fun hb=>by have:=(U7 hb).z1;omega)
 simp only[c4,aA,Aa,Ac,Cx j rfl,gL,I,D4];by_cases J:g.S<4
 ·simp only[J,aB,Aa,Ac,Dg,Cy,Cs,Ch,Bz,Bu,Br]
  exact no _ (f (p:=¬g.S<4) (by simpa using J) fun hb=>by have:=(U7 hb).s0;omega)
 simp only[J,aA,Aa,Ac,Cx j rfl,gL,I,Dg];by_cases L:64<g.S
 ·simp only[L,aB,Aa,Ac,Cy,Cs,Ch,Bz,Bu,Br]
  exact no _ (f (p:=¬64<g.S) (by simpa using L) fun hb=>by have:=(U7 hb).s1;omega)
 simp only[L,aA,Aa,Ac,Cx j rfl,gL,I,Cy];by_cases U:g.B<1
 ·simp only[U,aB,Aa,Ac,Cs,Ch,Bz,Bu,Br]
  exact no _ (f (p:=¬g.B<1) (by simpa using U) fun hb=>by have:=(U7 hb).b0;omega)
 simp only[U,aA,Aa,Ac,Cx j rfl,gL,I,Cs];by_cases W:256<g.B
 ·simp only[W,aB,Aa,Ac,Ch,Bz,Bu,Br]
  exact no _ (f (p:=¬256<g.B) (by simpa using W) fun hb=>by have:=(U7 hb).b1;omega)
 simp only[W,aA,Aa,Ac,Cx j rfl,gL,I,Ch];by_cases X:g.P<0
 ·simp only[X,aB,Aa,Ac,Bz,Bu,Br]
  exact no _ (f (p:=¬g.P<0) (by simpa using X) fun hb=>by have:=(U7 hb).p0;omega)
 simp only[X,aA,Aa,Ac,Cx j rfl,gL,I,Bz];by_cases d1:4<g.P
 ·simp only[d1,aB,Aa,Ac,Bu,Br]
  exact no _ (f (p:=¬4<g.P) (by simpa using d1) fun hb=>by have:=(U7 hb).p1;omega)
 simp only[d1,aA,Aa,Ac,Cx j rfl,gL,I,Bu];by_cases d2:g.O<4
 ·simp only[d2,aB,Aa,Ac,Br]
  exact no _ (f (p:=¬g.O<4) (by simpa using d2) fun hb=>by have:=(U7 hb).o0;omega)
 simp only[d2,aA,Aa,Ac,Cx j rfl,gL,I,Br];by_cases d3:64<g.O
 ·simp only[d3,aB,Aa]
  exact no _ (f (p:=¬64<g.O) (by simpa using d3) fun hb=>by have:=(U7 hb).o1;omega)
 have hs:j_ g=true:=by
  simp only[j_,aX,Gd];omega
 have s:=U7 hs;rw[hs];simp only[d3,aA,Aa,Ac,Tx,Au,Cp hn,Cz j rfl,Ak (show(gL g).length=6 from rfl),bG];refine Ok.bE (P:=fun v h4=>v=I g.parts/\Ext h1.lift h4) ⟨_,_,Bgs s hK _,rfl,As.new _ _⟩ (fun _ _ p=>p.2) ?_;rintro _ h4 h5 ⟨rfl,_⟩ _ Y;have y:h5.get h.next=some (.cells (gL g) 92):=by rw[Y.get _ hn id];exact j
 simp only[Aa,Ac,Au,Cp hn,Cx y rfl,gL,I];by_cases E:g.parts<=g.S
 ·simp only[E,aB,Aa,Au,Cp hn,Cx y rfl,Cz y rfl,Ak (show(gL g).length=6 from rfl),gL,I,Ac,bG]
  refine Ok.bE (A5v s _) (fun _ _ p=>p.2) ?_;rintro _ h6 h7 ⟨rfl,_⟩ _ x7;obtain⟨t0,t1⟩:=QP s;have:=s.s0;have:=s.s1;have:=s.b0;have:=s.b1;obtain⟨m0,m1⟩:=uJ (a:=g.S) (b:=g.segments) (A:=64) (B:=2000);simp only[Ac,I,Im,Aa];rw[Cn (n:=2*g.B),Cn (n:=g.S*g.segments)];exact .ret ⟨rfl,C.trans (Y.trans x7)⟩
 ·simp only[E,aA,Aa,Ac,Im,a8]
  exact .ret ⟨rfl,C.trans Y⟩
theorem A4m(h1:1<=n)(h2:n<=4096)(h:Ab):sQ K (I n) h=some (.tuple [.ptr (h.next+1) 0,I 0],(h.new (.chan n [])).new (.cells [.chan h.next] 199)):=by
 simp only[sQ,I,Ac,Aa];have a:¬(n:Int)<1:=a_
 have b:¬(4096:Int)<(n:Int):=a_
 simp only[a,b,aA,Aa,Ac,F_,FZ];have hm:sP (.int .i64 (n:Int)) h=some (.chan h.next,h.new (.chan n [])):=by
  show Bc (Nat.ble n 65536) _ none=_;rw[aO a_,Aj]
 rw[hm,Ar,Ax (l:=[.chan h.next]) rfl];simp only[Aa];rfl
structure E3(h:Ab)(p ql n:Nat)(q c:Nat->Nat)(g:Gm)(ps:Nat->List Int):Prop where
 pos:0<n
 Ed:h.get p=some (.cells (gL g++[.slice ql 0 n n true]) 165)
 row:h.get ql=some (.vec ((List.range n).map fun d=>.ptr (q d) 0) 166 1)
 que:∀d,d<n->h.get (q d)=some (.cells [.chan (c d)] 199)
 chan:∀d,d<n->h.get (c d)=some (.chan g.Z.toNat ((ps d).map I))
 inj:∀d e,d<n->e<n->c d=c e->d=e
structure yb(h0 h:Ab)(p ql i:Nat)(q c:Nat->Nat)(g:Gm)(s:EV):Prop where
 Ed:h.get p=some (.cells (gL g++[s]) 165)
 row:Ce h s ql 166 1 i ((List.range i).map fun d=>.ptr (q d) 0)
 que:∀d,d<i->h.get (q d)=some (.cells [.chan (c d)] 199)
 chan:∀d,d<i->h.get (c d)=some (.chan g.Z.toNat [])
 inj:∀d e,d<i->e<i->c d=c e->d=e
 new:h0.next<=p/\(0<i->h0.next<=ql)/\∀d,d<i->h0.next<=q d/\h0.next<=c d
 ext:Ext h0 h
 hb:HB h
theorem A1d {g:Gm}(s:Sm g)(h0:Ab){b p:Nat}(aa:b<h0.next)(hg:h0.get b=some (.cells (gL g) 23)):∀(m i:Nat) (ql:Nat) (q c:Nat->Nat) (A:EV) (h:Ab),g.D.toNat-i<m->i<=g.D.toNat->yb h0 h p ql i q c g A ->
 Ok (qD K m (.ptr b 0) (.ptr p 0) (I g.D) (I i) h) fun v h'=>v=.tuple [.ptr p 0,I 0]/\Ext h0 h'/\HB h'/\∃ql q c A,yb h0 h' p ql g.D.toNat q c g A:=by
 have:=s.d0;have:=s.d1;have:=s.z0;have:=s.z1;intro m;induction m with
 | zero=>intro i _ _ _ _ _ hm;omega
 | succ m ih=>
  intro i ql q c A h hm hi P;simp only[qD,I,Ac,Aa];by_cases L:(i:Int)<g.D
  ·have ad:h.get b=some (.cells (gL g) 23):=by rw[P.ext.get _ aa id];exact hg
   simp only[L,aB,Aa,GX,Cx ad rfl,gL,I];have hq:=A4m (K:=K) (n:=g.Z.toNat) a_ a_ h;rw[fP a_]at hq;simp only[I]at hq;simp only[hq,Aa,Ac,aC,aA,GW];have e1:Ext h ((h.new (.chan g.Z.toNat [])).new (.cells [.chan h.next] 199)):=(As.new _ _).trans (As.new _ _);have y:HB ((h.new (.chan g.Z.toNat [])).new (.cells [.chan h.next] 199)):=(P.hb.new _).new _;have gq:((h.new (.chan g.Z.toNat [])).new (.cells [.chan h.next] 199)).get (h.next+1)=some (.cells [.chan h.next] 199):=Ad _ _;have gc:((h.new (.chan g.Z.toNat [])).new (.cells [.chan h.next] 199)).get h.next=some (.chan g.Z.toNat []):=by rw[Ba _ (aT _)];exact Ad _ _
   have n1:((h.new (.chan g.Z.toNat [])).new (.cells [.chan h.next] 199)).next=h.next+2:=rfl
   generalize (h.new (.chan g.Z.toNat [])).new (.cells [.chan h.next] 199)=h1 at e1 y gq gc n1⊢;have gp:h1.get p=some (.cells (gL g++[A]) 165):=e1.at P.hb P.Ed;have E:Ce h1 A ql 166 1 i ((List.range i).map fun d=>.ptr (q d) 0):=P.row.frame fun hl=>e1.get _ (P.hb _ _ (P.row.block hl)) id
   have lp:=P.hb _ _ P.Ed;rw[Cx gp rfl,show(gL g++[A])[6]? = some A from rfl,G1];refine Ny (z:=[.F7]) E y rfl rfl rfl a_ a_ ?_;intro h2 J n2 c2;have n0:=P.ext.next
   have B:∀x o,h1.get x=some o->(∀l e sz,o≠.vec l e sz)->¬(0<i/\x=ql):=by
    rintro x o Y O ⟨hl,rfl⟩;rw[E.block hl]at Y;cases Y;exact O _ _ _ rfl
   have W:h2.get p=some (.cells (gL g++[A]) 165):=c2.at y gp (B _ _ gp (by intros;simp));refine Ok.st (gL g++[EV.slice (h1.next+1) 0 (i+1) (i+1) true]) W rfl rfl rfl ?_;simp only[GV,I,Ac];rw[Cn];have hE:Ext h h2->Ext h0 h2:=fun x=>P.ext.trans x
   have x2:Ext h0 h2:=by
    refine(P.ext.trans e1).then c2 fun j hj L=>?_
    have:=(P.new.2.1 hj.1);omega
   have x3:Ext h0 (h2.put p (.cells (gL g++[EV.slice (h1.next+1) 0 (i+1) (i+1) true]) 165)):=x2.Aq (.inr P.new.1) (by have:=c2.next;omega) _;have ah:=c2.hb y;have ai:HB (h2.put p (.cells (gL g++[EV.slice (h1.next+1) 0 (i+1) (i+1) true]) 165)):=ah.put (by have:=c2.next;omega) _;have By:∀x o,h.get x=some o->(∀l e sz,o≠.vec l e sz)->x≠p->(h2.put p (.cells (gL g++[EV.slice (h1.next+1) 0 (i+1) (i+1) true]) 165)).get x=some o:=by
    intro x o Y O aj;rw[Af _ (cX aj)];have X:=e1.at P.hb Y;exact c2.at y X (B _ _ X O)
   have ax:h.next<h1.next:=a_
   have P':yb h0 (h2.put p (.cells (gL g++[EV.slice (h1.next+1) 0 (i+1) (i+1) true]) 165)) p (h1.next+1) (i+1) (fun d=>if d=i then h.next+1 else q d) (fun d=>if d=i then h.next else c d) g (.slice (h1.next+1) 0 (i+1) (i+1) true):=by
    refine⟨Ae _ _ _,?_,?_,?_,?_,⟨P.new.1,fun _=>a_,?_⟩,x3,ai⟩
    ·have:(List.range (i+1)).map (fun d=>EV.ptr (if d=i then h.next+1 else q d) 0)=((List.range i).map fun d=>EV.ptr (q d) 0)++EV.cells (.ptr (h.next+1) 0):=by
      rw[dB,cI];congr 1
      ·refine cY fun d hd=>?_
       rw[aH (by have:=eW.1 hd;omega)]
      ·simp[EV.cells]
     rw[this];refine J.frame fun _=>Af _ ?_
     have:=J.block a_;exact Bf W this (by simp)
    ·intro d hd
     by_cases f:d=i
     ·subst f
      simp only[bN];rw[Af _];exact c2.at y gq (B _ _ gq (by intros;simp))
     ·simp only[f,ak]
      have:=P.que d a_;exact By _ _ this (by intros;simp) (Bf this P.Ed (by simp))
    ·intro d hd
     by_cases f:d=i
     ·subst f
      simp only[bN];rw[Af _];exact c2.at y gc (B _ _ gc (by intros;simp))
     ·simp only[f,ak]
      have:=P.chan d a_;exact By _ _ this (by intros;simp) (Bf this P.Ed (by simp))
    ·intro d e hd he C
     have lc:=fun d (hd:d<i)=>P.hb _ _ (P.chan d hd)
     by_cases f:d=i<;>by_cases U:e=i
     ·omega
     ·simp only[f,U,bN,ak]at C;have:=lc e a_;omega
     ·simp only[f,U,bN,ak]at C;have:=lc d a_;omega
     ·simp only[f,U,ak]at C;exact P.inj d e a_ a_ C
    ·intro d hd
     by_cases f:d=i
     ·subst f;simp only[bN];omega
     ·simp only[f,ak];exact P.new.2.2 d a_
   exact ih (i+1) _ _ _ _ _ a_ a_ P'
  ·have:i=g.D.toNat:=a_
   subst this;simp only[L,aA,Aa,GU];exact .ret ⟨rfl,P.ext,P.hb,ql,q,c,A,P⟩
theorem A4p {g:Gm}(X:rtB g=true)(hK:1000<K)(hb:HB h):Ok (oY K (gV g) h) fun v h'=>∃p ql q c,v=.tuple [.ptr p 0,I 0]/\Ext h h'/\HB h'/\E3 h' p ql g.D.toNat q c g (fun _=>[])/\h.next<=p/\h.next<=ql/\∀d,d<g.D.toNat->h.next<=q d/\h.next<=c d:=by
 have s:=Qu X;have:=s.d0;have:=s.d1;simp only[oY,gV,Aa];have L:(h.new (.cells (gL g) 23)).get h.next=some (.cells (gL g) 23):=Ad _ _
 have hn:h.next<(h.new (.cells (gL g) 23)).next:=aT _
 have J:Ext h (h.new (.cells (gL g) 23)):=As.new _ _;generalize h.new (.cells (gL g) 23)=h1 at L hn J⊢;simp only[Cz L rfl,Ak (show(gL g).length=6 from rfl),Aa];refine(Z9 g h1).Ao ?_;rintro _ h2 ⟨rfl,y⟩;rw[X];have j:h2.get h.next=some (.cells (gL g) 23):=by rw[y.get _ hn id];exact L
 have A:h.next<h2.next:=aL hn y.next
 simp only[Aa,GY,Cz j rfl,Ak (show(gL g).length=6 from rfl)];rw[Ax (l:=gL g++[.Am]) rfl];simp only[Aa];have O:=(y.hb (J.hb hb));have B:(h2.new (.cells (gL g++[.Am]) 165)).get h.next=some (.cells (gL g) 23):=by rw[Ba _ A];exact j
 have C:(h2.new (.cells (gL g++[.Am]) 165)).get h2.next=some (.cells (gL g++[.Am]) 165):=Ad _ _
 have Y:Ext h2 (h2.new (.cells (gL g++[.Am]) 165)):=As.new _ _;have E:HB (h2.new (.cells (gL g++[.Am]) 165)):=O.new _;have n3:h2.next<(h2.new (.cells (gL g++[.Am]) 165)).next:=aT _
 generalize h2.new (.cells (gL g++[.Am]) 165)=h3 at B C Y E n3⊢;simp only[Cx B rfl,gL,Aa,I];refine(A1d (K:=K) (p:=h2.next) s h2 A j K 0 0 (fun _=>0) (fun _=>0) .Am h3 a_ a_ ⟨C,.nil _ _ _ _,fun d hd=>absurd hd (cJ _),fun d hd=>absurd hd (cJ _),fun d e hd=>absurd hd (cJ _),⟨aD _,fun x=>absurd x (bX _),fun d hd=>absurd hd (cJ _)⟩,Y,E⟩).mono ?_;rintro v h' ⟨rfl,x4,U,ql,q,c,sl,P⟩;refine⟨h2.next,ql,q,c,rfl,J.trans (y.trans x4),U,?_⟩;have f:0<g.D.toNat:=a_
 have W:=P.row.slice f;subst W;have t:=J.next
 have t2:=y.next
 exact⟨⟨f,P.Ed,P.row.block f,P.que,P.chan,P.inj⟩,a_,by have:=P.new.2.1 f;omega,fun d hd=>by have:=P.new.2.2 d hd;omega⟩
theorem A77 {g:Gm}(f:rtB g=false)(h:Ab):Ok (oY K (gV g) h) fun v h'=>v=.tuple [.F7,I 20]/\Ext h h':=by
 simp only[oY,gV,Aa];obtain⟨h1,j,y,A,_⟩:=nW h (.cells (gL g) 23);rw[j];simp only[Cz A rfl,Ak (show(gL g).length=6 from rfl),Aa];refine(Z9 g h1).Ao ?_;rintro _ h2 ⟨rfl,B⟩;rw[f];simp only[Aa];exact .ret ⟨rfl,y.trans B⟩
theorem A0n(n a:Int)(h:Ab):qA K (I n) (I a) h=some (.bool (wi n 1 a),h):=by
 simp only[qA,I,Ac,Aa];by_cases h1:1<=n
 ·simp only[h1,aB,Aa,Ac,wa,wi,bG]
 ·simp only[h1,aA,Aa,Ac,wa,wi,a8]
def U1(size:Int):Ds:=.cells [.Am,I size,I 0,I 0,.bool false] 176
theorem A3e {size:Int}(h1:1<=size)(h2:size<=64)(h:Ab):L6 K (I size) h=some (.tuple [.ptr h.next 0,I 0],h.new (U1 size)):=by
 have a:¬size<1:=a_
 have b:¬64<size:=a_
 simp only[L6,I,Ac,Aa,a,b,aA,Us,Ut];rw[Ax (l:=[.Am,I size,I 0,I 0,.bool false]) rfl];simp only[Aa];rfl
structure Zn where
 l:List (List EV)
 safe:Nat
 st:Nat
 fin:Bool
def Zn.empty:Zn:=⟨[],0,0,false⟩
structure Fj(h:Ab)(z q:Nat)(size:Int)(Z:Zn):Prop where
 Ai:∃s,h.get z=some (.cells [s,I size,I Z.safe,I Z.st,.bool Z.fin] 176)/\Ce h s q 32 64 Z.l.length Z.l.flatten
 wf:∀x∈Z.l,x.length=64
structure L2(h:Ab)(V zl n:Nat)(z q:Nat->Nat)(size op cnt:Int)(down:Bool)(Zs:Nat->Zn):Prop where
 pos:0<n
 dev:h.get V=some (.cells [.slice zl 0 n n true,I size,I op,I cnt,.bool down] 131)
 row:h.get zl=some (.vec ((List.range n).map fun i=>.ptr (z i) 0) 128 1)
 Ai:∀i,i<n->Fj h (z i) (q i) size (Zs i)
 A5b:∀i j,i<n->j<n->z i=z j->i=j
 A8p:∀i j,i<n->j<n->(Zs i).l≠[]->(Zs j).l≠[]->q i=q j->i=j
structure uK(h0 h:Ab)(V zl i:Nat)(z:Nat->Nat)(size op:Int)(s:EV):Prop where
 dev:h.get V=some (.cells [s,I size,I op,I 0,.bool false] 131)
 row:Ce h s zl 128 1 i ((List.range i).map fun d=>.ptr (z d) 0)
 Ai:∀d,d<i->h.get (z d)=some (U1 size)
 A5b:∀d e,d<i->e<i->z d=z e->d=e
 new:h0.next<=V/\(0<i->h0.next<=zl)/\∀d,d<i->h0.next<=z d
 ext:Ext h0 h
 hb:HB h
theorem A1n {size op:Int}(hn:n<=512)(s0:1<=size)(s1:size<=64)(h0:Ab):∀(m i:Nat) (zl:Nat) (z:Nat->Nat) (E:EV) (h:Ab),n-i<m->i<=n->uK h0 h V zl i z size op E ->
 Ok (qB K m (I size) (.ptr V 0) (I n) (I i) h) fun v h'=>v=.tuple [.ptr V 0,I 0]/\∃zl z E,uK h0 h' V zl n z size op E:=by
 intro m;induction m with
 | zero=>intro i _ _ _ _ hm;omega
 | succ m ih=>
  intro i zl z E h hm hi P;simp only[qB,I,Ac,Aa];by_cases J:(i:Int)<n
  ·simp only[J,aB,Aa,GM]
   have hq:=A3e (K:=K) s0 s1 h;simp only[I]at hq;simp only[hq,Aa,Ac,aC,aA,GL];have e1:Ext h (h.new (U1 size)):=As.new _ _;have y:HB (h.new (U1 size)):=P.hb.new _;have gz:(h.new (U1 size)).get h.next=some (U1 size):=Ad _ _
   have n1:(h.new (U1 size)).next=h.next+1:=rfl
   generalize h.new (U1 size)=h1 at e1 y gz n1⊢;have U:h1.get V=some (.cells [E,I size,I op,I 0,.bool false] 131):=e1.at P.hb P.dev;have B:Ce h1 E zl 128 1 i ((List.range i).map fun d=>.ptr (z d) 0):=P.row.frame fun hl=>e1.get _ (P.hb _ _ (P.row.block hl)) id
   have lp:=P.hb _ _ P.dev;rw[Cx U rfl];simp only[Aa];refine Ny (z:=[.F7]) B y rfl rfl rfl a_ a_ ?_;intro h2 C n2 c2;have n0:=P.ext.next
   have W:∀x o,h1.get x=some o->(∀l e sz,o≠.vec l e sz)->¬(0<i/\x=zl):=by
    rintro x o hx L ⟨hl,rfl⟩;rw[B.block hl]at hx;cases hx;exact L _ _ _ rfl
   have X:=c2.at y U (W _ _ U (by intros;simp));refine Ok.gK X rfl rfl (by show 0<5;decide) ?_;simp only[GK,I,Ac,List.set];rw[Cn];have x2:Ext h0 h2:=by
    refine(P.ext.trans e1).then c2 fun j hj J=>?_
    have:=(P.new.2.1 hj.1);omega
   have af:=c2.hb y;have Y:V<h2.next:=by have:=c2.next;omega
   have x3:=x2.Aq (.inr P.new.1) Y (.cells [EV.slice (h1.next+1) 0 (i+1) (i+1) true,I size,I op,I 0,.bool false] 131);have ag:=af.put Y (.cells [EV.slice (h1.next+1) 0 (i+1) (i+1) true,I size,I op,I 0,.bool false] 131);have By:∀x o,h1.get x=some o->(∀l e sz,o≠.vec l e sz)->x≠V->(h2.put V (.cells [EV.slice (h1.next+1) 0 (i+1) (i+1) true,I size,I op,I 0,.bool false] 131)).get x=some o:=by
    intro x o aa L ah;rw[Af _ (cX ah)];exact c2.at y aa (W _ _ aa L)
   have P':uK h0 (h2.put V (.cells [EV.slice (h1.next+1) 0 (i+1) (i+1) true,I size,I op,I 0,.bool false] 131)) V (h1.next+1) (i+1) (fun d=>if d=i then h.next else z d) size op (.slice (h1.next+1) 0 (i+1) (i+1) true):=by
    refine⟨Ae _ _ _,?_,?_,?_,⟨P.new.1,fun _=>a_,?_⟩,x3,ag⟩
    ·have:(List.range (i+1)).map (fun d=>EV.ptr (if d=i then h.next else z d) 0)=((List.range i).map fun d=>EV.ptr (z d) 0)++EV.cells (.ptr h.next 0):=by
      rw[dB,cI];congr 1
      ·refine cY fun d hd=>?_
       rw[aH (by have:=eW.1 hd;omega)]
      ·simp[EV.cells]
     rw[this];refine C.frame fun _=>Af _ ?_
     have:=C.block a_;exact Bf X this (by simp)
    ·intro d hd
     by_cases f:d=i
     ·subst f
      simp only[bN];exact By _ _ gz (by intros;simp[U1]) (Bf gz U (by simp[U1]))
     ·simp only[f,ak]
      have:=e1.at P.hb (P.Ai d a_);exact By _ _ this (by intros;simp[U1]) (Bf this U (by simp[U1]))
    ·intro d e hd he A
     have lc:=fun d (hd:d<i)=>P.hb _ _ (P.Ai d hd)
     by_cases f:d=i<;>by_cases O:e=i
     ·omega
     ·simp only[f,O,bN,ak]at A;have:=lc e a_;omega
     ·simp only[f,O,bN,ak]at A;have:=lc d a_;omega
     ·simp only[f,O,ak]at A;exact P.A5b d e a_ a_ A
    ·intro d hd
     by_cases f:d=i
     ·subst f;simp only[bN];omega
     ·simp only[f,ak];exact P.new.2.2 d a_
   exact ih (i+1) _ _ _ _ a_ a_ P'
  ·have:i=n:=a_
   subst this;simp only[J,aA,Aa,GJ];exact .ret ⟨rfl,zl,z,E,P⟩
def qk(gT size op:Int):Bool:=wi gT 1 512&&wi op 1 64&&wi size 1 64
theorem A5f {size op:Int}(A:qk gT size op=true)(hK:1000<K)(hb:HB h):Ok (sT K (I gT) (I size) (I op) h) fun v h'=>∃V zl z,v=.tuple [.ptr V 0,I 0]/\Ext h h'/\HB h'/\L2 h' V zl gT.toNat z (fun _=>0) size op 0 false (fun _=>Zn.empty)/\h.next<=V/\h.next<=zl/\∀d,d<gT.toNat->h.next<=z d:=by
 simp only[qk,aX]at A;obtain⟨⟨B,C⟩,E⟩:=A;obtain⟨a0,O⟩:=Gd.1 B;obtain⟨J,c1⟩:=Gd.1 E;have w:=fun n a=>A0n (K:=K) n a h
 simp only[I]at w;simp only[sT,I,w,B,C,Aa,Ac,GO,GN];rw[Ax (l:=[.Am,I size,I op,I 0,.bool false]) rfl];simp only[Aa];have P:uK h (h.new (.cells [.Am,I size,I op,I 0,.bool false] 131)) h.next 0 0 (fun _=>0) size op .Am:=
  ⟨Ad _ _,.nil _ _ _ _,fun d hd=>absurd hd (cJ _),fun d e hd=>absurd hd (cJ _),⟨aD _,fun x=>absurd x (bX _),fun d hd=>absurd hd (cJ _)⟩,As.new _ _,hb.new _⟩
 have:=A1n (K:=K) (n:=gT.toNat) a_ J c1 h K 0 0 (fun _=>0) .Am _ a_ a_ P;rw[fP a_]at this;refine this.mono ?_;rintro v h' ⟨rfl,zl,z,U,P⟩;have f:0<gT.toNat:=a_
 have y:=P.row.slice f;subst y;exact⟨h.next,zl,z,rfl,P.ext,P.hb,⟨f,P.dev,P.row.block f,fun i hi=>⟨⟨_,P.Ai i hi,.nil _ _ _ _⟩,fun x L=>by cases L⟩,P.A5b,fun i j _ _ a=>absurd rfl a⟩,aD _,P.new.2.1 f,P.new.2.2⟩
structure mA(h:Ab)(D V M zl n:Nat)(z q:Nat->Nat)(size op cnt:Int)(down:Bool)(Gh happened:EV)(marks:List (EV × EV))(Zs:Nat->Zn):Prop where
 Da:h.get D=some (.cells [.ptr V 0,Gh,happened,.map M] 118)
 marks:h.get M=some (.map marks)
 dev:L2 h V zl n z q size op cnt down Zs
theorem L2.ext{z q:Nat->Nat}{size op:Int}{Zs:Nat->Zn}(d:L2 h V zl n z q size op cnt down Zs)(g:∀i o,h.get i=some o->h'.get i=some o):L2 h' V zl n z q size op cnt down Zs:=by
 refine⟨d.pos,g _ _ d.dev,g _ _ d.row,fun i hi=>?_,d.A5b,d.A8p⟩;obtain⟨s,a,b⟩:=(d.Ai i hi).Ai;exact⟨⟨s,g _ _ a,b.frame fun f=>by rw[g _ _ (b.block f),b.block f]⟩,(d.Ai i hi).wf⟩
theorem E3.ext{p:Nat}{q c:Nat->Nat}{g:Gm}(d:E3 h p ql n q c g ps)(e:∀i o,h.get i=some o->h'.get i=some o):E3 h' p ql n q c g ps:=
 ⟨d.pos,e _ _ d.Ed,e _ _ d.row,fun i hi=>e _ _ (d.que i hi),fun i hi=>e _ _ (d.chan i hi),d.inj⟩
theorem mA.ext{D M:Nat}{z q:Nat->Nat}{size op:Int}{Zs:Nat->Zn}(d:mA h D V M zl n z q size op cnt down Gh happened marks Zs)(e:∀i o,h.get i=some o->h'.get i=some o):
 mA h' D V M zl n z q size op cnt down Gh happened marks Zs:=⟨e _ _ d.Da,e _ _ d.marks,d.dev.ext e⟩
theorem ZO {size op:Int}(A:qk gT size op=true)(hK:1000<K)(hb:HB h):Ok (qC K (I gT) (I size) (I op) h) fun v h'=>∃D V M zl z,v=.tuple [.ptr D 0,I 0]/\Ext h h'/\HB h'/\mA h' D V M zl gT.toNat z (fun _=>0) size op 0 false .Am .Am [] (fun _=>Zn.empty)/\(h.next<=D/\h.next<=M)/\h.next<=V/\h.next<=zl/\∀d,d<gT.toNat->h.next<=z d:=by
 simp only[qC,dr];refine(A5f (K:=K) A hK hb).Ao ?_;rintro _ h1 ⟨V,zl,z,rfl,j,f,d1,nw⟩;simp only[Aa,Ac,I,aC,aA,GS];rw[show sU h1=some (.map h1.next,h1.new (.map []))from rfl,Ar,Ax (l:=[.ptr V 0,.Am,.Am,.map h1.next]) rfl];simp only[Aa];have y:Ext h1 ((h1.new (.map [])).new (.cells [.ptr V 0,.Am,.Am,.map h1.next] 118)):=(As.new _ _).Dn _;refine .ret ⟨(h1.new (.map [])).next,V,h1.next,zl,z,rfl,j.trans y,(f.new _).new _,⟨Ad _ _,?_,d1.ext fun i o g=>y.at f g⟩,⟨by have:=j.next;show h.next<=h1.next+1;omega,j.next⟩,nw⟩;rw[Ba _ (aT _)];exact Ad _ _
section
def mc(ps:Nat->List Int)(n:Nat)(d:Int):Nat:=if 0<=d/\d<n then(ps d.toNat).length else 0
theorem QQ{q c:Nat}{buf:List EV}(hq:h.get q=some (.cells [.chan c] 199))(hc:h.get c=some (.chan cap buf)):E8 K (.ptr q 0) h=some (I buf.length,h):=by
 simp only[E8,Aa,Cx hq rfl];have:sR (.chan c) h=some (I buf.length,h):=by
  show(match h.get c with|some (.chan _ buf)=>some (EV.int .i64 (.ofNat (len buf)),h)|_=>none)=_;rw[hc];simp only;rw[Ue];rfl
 rw[this];rfl
section
variable{p:Nat}{q c:Nat->Nat}{g:Gm}(P:E3 h p ql n q c g ps)
include P
theorem E3.rowAt:Ce h (.slice ql 0 n n true) ql 166 1 n ((List.range n).map fun d=>.ptr (q d) 0):=.inr ⟨P.pos,rfl,P.row,by simp⟩
theorem E3.list(k:EV->R):Ec (.ptr p 6) h k=k (.slice ql 0 n n true):=by rw[Cx P.Ed rfl];rfl
theorem E3.ov(k:EV->R):Q4 6 (.ptr p 0) h k=k (gV g):=by rw[Cz P.Ed rfl];rfl
theorem E3.nf {d:Nat}(hd:d<n)(k:EV->R):Ec (.ptr ql (d*1)) h k=k (.ptr (q d) 0):=by
 rw[Cx P.row rfl,br,bB,cB hd];rfl
theorem E3.len {d:Nat}(hd:d<n):E8 K (.ptr (q d) 0) h=some (I (ps d).length,h):=by
 rw[QQ (P.que d hd) (P.chan d hd),bT]
theorem A0x(d:Int):U2 K (.ptr p 0) (I d) h=some (I (mc ps n d:Nat),h):=by
 unfold mc;simp only[U2,I,Ac,Aa];by_cases h1:d<0
 ·simp only[h1,aB,Aa,Ac,U5]
  rw[aH a_];rfl
 ·simp only[h1,aA,Aa,Ac,P.list,U5]
  by_cases h2:(n:Int)<=d
  ·simp only[h2,aB,Aa]
   rw[aH a_];rfl
  ·simp only[h2,aA,Aa,GA,P.list]
   have hd:d.toNat<n:=a_
   have e:d=(d.toNat:Int):=a_
   rw[e,P.rowAt.ix hd];simp only[Aa,P.nf hd];rw[P.len hd,Ar,aK a_];rfl
end
def ru(ps:Nat->List Int)(Te:Int)(b:Int)(d:Nat):Int:=if ¬(d:Int)=Te/\(b<0\/(ps b.toNat).length<(ps d).length)then d else b
def Fl(ps:Nat->List Int)(Te:Int)(n:Nat):Int:=(List.range n).foldl (ru ps Te) (-1)
theorem yc(ps:Nat->List Int)(Te:Int)(n:Nat):Fl ps Te (n+1)=ru ps Te (Fl ps Te n) n:=by unfold Fl;rw[dB,List.foldl_append];rfl
theorem QR(ps:Nat->List Int)(Te:Int):∀n,-1<=Fl ps Te n/\Fl ps Te n<(n:Int)/\(Fl ps Te n = -1\/0<=Fl ps Te n)
 | 0=>by unfold Fl;simp
 | n+1=>by
  obtain⟨a,b,c⟩:=QR ps Te n;rw[yc];unfold ru;split<;>omega
def yd(n:Nat)(ps:Nat->List Int):Prop:=n<=64/\∀d,d<n->(ps d).length<=4096
theorem A3f {p:Nat}{q c:Nat->Nat}{g:Gm}(Te:Int)(hn:n<=64):∀(m i:Nat) (h:Ab),n-i<m->i<=n->HB h->E3 h p ql n q c g ps ->
 Ok (He K m (.ptr p 0) (I Te) (I (Fl ps Te i)) (.slice ql 0 n n true) (I n) (I i) h) fun v h'=>v=I (Fl ps Te n)/\Ext h h':=by
 intro m;induction m with
 | zero=>intro i h hm;omega
 | succ m W=>
  intro i h hm hi hb P;simp only[He,I,Ac,Aa];by_cases B:(i:Int)<n
  ·have y:i<n:=a_
   simp only[B,aB,Aa,GC];rw[P.rowAt.ix y,P.nf y];obtain⟨b0,b1,b2⟩:=QR ps Te i;have next:∀(b:Int) (h1:Ab),b=Fl ps Te (i+1)->Ext h h1->Ok (Mu K (He K m) (.ptr p 0) (.int .i64 Te) (.int .i64 b) (.slice ql 0 n n true) (.int .i64 (n:Int)) (.int .i64 (i:Int)) h1) fun v h'=>v=I (Fl ps Te n)/\Ext h h':=by
    rintro _ h1 rfl E;simp only[Mu,Ac];rw[Cn];exact(W (i+1) h1 a_ a_ (E.hb hb) (P.ext fun i o g=>E.at hb g)).mono fun v h' a=>⟨a.1,E.trans a.2⟩
   rw[yc]at next
   unfold ru at next
   simp only[Aa,Ac];by_cases f:(i:Int)=Te
   ·simp only[f,aC,aA,Aa,Ac,Ng,Hb,Hc]
    rw[aH (fun x=>x.1 f)]at next
    rw[f]at next
    exact next _ h rfl (As.refl _)
   ·simp only[f,aG,aB,Aa,Ac,Ng]
    by_cases j:Fl ps Te i<0
    ·simp only[j,aB,Aa,Ac,Hb,Hc]
     rw[aK ⟨f,.inl j⟩]at next
     exact next _ h rfl (As.refl _)
    ·simp only[j,aA,Aa,Ac]
     refine Ok.bE (P:=fun v h2=>v=I (ps i).length/\Ext h.lift h2) ⟨_,_,(P.ext (h':=h.lift) fun i o g=>by rw[Bx];exact g).len y,rfl,As.refl _⟩ (fun _ _ p=>p.2) ?_;rintro _ h2 J ⟨rfl,_⟩ _ L;have C:E3 J p ql n q c g ps:=P.ext fun i o g=>L.at hb g
     have X:p<h.next:=hb _ _ P.Ed
     have hq:ql<h.next:=hb _ _ P.row
     have A:(Fl ps Te i).toNat<n:=a_
     simp only[Aa,Au,Cp X,C.list];rw[show Fl ps Te i=((Fl ps Te i).toNat:Int) from a_,C.rowAt.ix A];simp only[Aa,Au,Cp hq,C.nf A];refine Ok.bE (P:=fun v h2=>v=I (ps (Fl ps Te i).toNat).length/\Ext J.lift h2) ⟨_,_,(C.ext (h':=J.lift) fun i o g=>by rw[Bx];exact g).len A,rfl,As.refl _⟩ (fun _ _ p=>p.2) ?_;rintro _ h4 O ⟨rfl,_⟩ _ U;rw[show((Fl ps Te i).toNat:Int)=Fl ps Te i from a_];simp only[Ac,I];by_cases hc:((ps (Fl ps Te i).toNat).length:Int)<(ps i).length
     ·simp only[hc,aB,Hb,Hc,Aa,Ac]
      rw[aK ⟨f,.inr a_⟩]at next
      exact next _ O rfl (L.trans U)
     ·simp only[hc,aA,Hb,Hc,Aa,Ac]
      rw[aH (fun x=>by rcases x.2 with a|a<;>omega)]at next
      exact next _ O rfl (L.trans U)
  ·have:i=n:=a_
   subst this;simp only[B,aA,Aa,GB];exact .ret ⟨rfl,As.refl _⟩
theorem ye{p:Nat}{q c:Nat->Nat}{g:Gm}(P:E3 h p ql n q c g ps)(hb:HB h)(hn:n<=64)(hK:1000<K)(Te:Int):
 Ok (Jy K (.ptr p 0) (I Te) h) fun v h'=>v=I (Fl ps Te n)/\Ext h h':=by
 simp only[Jy,Aa,P.list];exact A3f Te hn K 0 h a_ a_ hb P
def jh(ps:Nat->List Int)(n:Nat):Nat:=((List.range n).map fun d=>(ps d).length).sum
theorem rv(ps:Nat->List Int)(n:Nat):jh ps (n+1)=jh ps n+(ps n).length:=by unfold jh;rw[dB,cI,List.sum_append];simp
def Zv(ps:Nat->List Int)(n:Nat):Int:=min ((jh ps n:Int)/2) (jh ps n-mc ps n (Fl ps (-1) n))
theorem A97 {p:Nat}{q c:Nat->Nat}{g:Gm}(hs:yd n ps)(hb:HB h)(P:E3 h p ql n q c g ps)(hK:1000<K):∀(m i:Nat),n-i<m->i<=n->jh ps i<=4096*i ->
 Ok (Lp K m (.ptr p 0) (I (jh ps i)) (.slice ql 0 n n true) (I n) (I i) h) fun v h'=>v=I (Zv ps n)/\Ext h h':=by
 obtain⟨hn,y⟩:=hs;intro m;induction m with
 | zero=>intro i hm;omega
 | succ m C=>
  intro i hm hi A;simp only[Lp,I,Ac,Aa];by_cases j:(i:Int)<n
  ·have f:i<n:=a_
   have:=y i f;simp only[j,aB,Aa,GR];rw[P.rowAt.ix f,P.nf f,P.len f,Ar];simp only[I,Ac,GQ];rw[Cn,Cn];have e:((jh ps i:Int)+(ps i).length)=(jh ps (i+1):Nat):=by rw[rv];omega
   rw[e];exact C (i+1) a_ a_ (by rw[rv];omega)
  ·have:i=n:=a_
   subst this;simp only[j,aA,Aa,GP];rw[qv a_ a_ a_];refine(ye P hb hn hK (-1)).Ao ?_;rintro _ h1 ⟨rfl,B⟩;rw[A0x (P.ext fun i o g=>B.at hb g),Ar];simp only[I,Ac];have hle:mc ps i (Fl ps (-1) i)<=4096:=by
    unfold mc;split
    ·exact y _ a_
    ·omega
   rw[Cn,min2,Ar];exact .ret ⟨rfl,B⟩
theorem BM{p:Nat}{q c:Nat->Nat}{g:Gm}(P:E3 h p ql n q c g ps)(hb:HB h)(hs:yd n ps)(hK:1000<K:=by omega):
 Ok (Ik K (.ptr p 0) h) fun v h'=>v=I (Zv ps n)/\Ext h h':=by
 simp only[Ik,Aa,P.list];exact A97 hs hb P hK K 0 (by obtain⟨a,_⟩:=hs;omega) a_ (by unfold jh;simp)
end
section
def Abr(D:Nat)(g:Gm)(p bl n:Nat)(a b u:Int):List EV:=[.ptr D 0]++gL g++Bh++[.ptr p 0,.slice bl 0 n n false,I a,I b,I u]
theorem Nt:Bh.length=256:=by kernel_rfl
section
variable (D:Nat)(g:Gm)(p bl n:Nat)(a b u:Int)
theorem yf:(Abr D g p bl n a b u).length=268:=by unfold Abr;simp[Nt,gL]
theorem Bag:(Abr D g p bl n a b u)[0]? = some (.ptr D 0):=rfl
theorem Bfo:Ly (Abr D g p bl n a b u) 1 6=some (gL g):=by kernel_rfl
theorem A9m:Ly (Abr D g p bl n a b u) 7 256=some Bh:=by kernel_rfl
theorem Bg7:(Abr D g p bl n a b u)[263]? = some (.ptr p 0):=by kernel_rfl
theorem Bix:(Abr D g p bl n a b u)[264]? = some (.slice bl 0 n n false):=by kernel_rfl
theorem Bpj:(Abr D g p bl n a b u)[265]? = some (I a):=by kernel_rfl
theorem Bqe:(Abr D g p bl n a b u)[266]? = some (I b):=by kernel_rfl
theorem Bqm:(Abr D g p bl n a b u)[267]? = some (I u):=by kernel_rfl
end
theorem Wi{l:List EV}(f:h.get i=some (.cells l t))(hs:TT.size t=some n)(j:TT.agg t=some true)(y:l.length=n):Iq TT [.c (.ptr i 0) t] h=some (.agg l,h):=by
 have A:I6 h i 0 n=some l:=by
  unfold I6;rw[f];simp only;rw[<-mK];exact Ak y
 unfold Iq;simp only[jV,hs,A,j]
structure Ab2(h:Ab)(m D p bl n:Nat)(g:Gm)(a b u:Int)(bad:Nat->Int):Prop where
 Hp:h.get m=some (.cells (Abr D g p bl n a b u) 113)
 Ax6:h.get bl=some (.cells ((List.range n).map fun z=>I (bad z)) 3)
section
variable{m D p bl:Nat}{g:Gm}{b u:Int}{bad:Nat->Int}(M:Ab2 h m D p bl n g a b u bad)
include M
theorem Ab2.Da(k:EV->R):Ec (.ptr m 0) h k=k (.ptr D 0):=by rw[Cx M.Hp rfl,Bag];rfl
theorem Ab2.ov(k:EV->R):Q4 6 (.ptr m 1) h k=k (gV g):=by rw[Cz M.Hp rfl,Bfo];rfl
theorem Ab2.table(k:EV->R):Q4 256 (.ptr m 7) h k=k Tu:=by rw[Cz M.Hp rfl,A9m];rfl
theorem Ab2.Ed(k:EV->R):Ec (.ptr m 263) h k=k (.ptr p 0):=by rw[Cx M.Hp rfl,Bg7];rfl
theorem Ab2.QS(k:EV->R):Ec (.ptr m 264) h k=k (.slice bl 0 n n false):=by rw[Cx M.Hp rfl,Bix];rfl
theorem Ab2.oa(k:EV->R):Ec (.ptr m 265) h k=k (I a):=by rw[Cx M.Hp rfl,Bpj];rfl
theorem Ab2.ob(k:EV->R):Ec (.ptr m 266) h k=k (I b):=by rw[Cx M.Hp rfl,Bqe];rfl
theorem Ab2.ou(k:EV->R):Ec (.ptr m 267) h k=k (I u):=by rw[Cx M.Hp rfl,Bqm];rfl
theorem Ab2.ext(e:∀i o,h.get i=some o->h'.get i=some o):Ab2 h' m D p bl n g a b u bad:=⟨e _ _ M.Hp,e _ _ M.Ax6⟩
omit M in
theorem rO:TT.size 23=some 6/\TT.agg 23=some true:=⟨by kernel_rfl,by kernel_rfl⟩
omit M in
theorem QT:TT.size 73=some 256/\TT.agg 73=some true:=⟨by kernel_rfl,by kernel_rfl⟩
end
section
variable{D M:Nat}{z q:Nat->Nat}{size op:Int}{Zs:Nat->Zn}
theorem QU(d:mA h D V M zl n z q size op cnt down Gh happened marks Zs):Eu K (.ptr D 0) h=some (.ptr V 0,h):=by simp only[Eu,Aa,Cx d.Da rfl]
theorem QV(d:L2 h V zl n z q size op cnt down Zs):Ns K (.ptr V 0) h=some (I n,h):=by simp only[Ns,Aa,Cx d.dev rfl,I]
theorem QW(d:L2 h V zl n z q size op cnt down Zs):Ox K (.ptr V 0) h=some (I size,h):=by simp only[Ox,Aa,Cx d.dev rfl]
end
theorem vU(v:EV):∀n,rep [v] n=List.replicate n v
 | 0=>rfl
 | n+1=>by show[v]++rep [v] n=_;rw[vU v n];rfl
theorem FG(v:EV)(n:Nat):(List.range n).map (fun _=>v)=List.replicate n v:=by
 rw[List.map_const',eQ]
theorem ZP {g:Gm}(hK:1000<K)(hb:HB h){D M:Nat}{z q:Nat->Nat}{size op:Int}{Zs:Nat->Zn}(dr:mA h D V M zl n z q size op cnt down Gh happened marks Zs):
 Ok (qE K (.ptr D 0) (gV g) Tu h) fun v h'=>Ext h h'/\HB h'/\if rtB g=true/\g.D*g.Z=n/\g.S=size then
  ∃m p bl ql q c,v=.tuple [.ptr m 0,I 0]/\Ab2 h' m D p bl n g (-1) (-1) 0 (fun _=>0)/\E3 h' p ql g.D.toNat q c g (fun _=>[])/\(h.next<=m/\h.next<=bl)/\h.next<=p/\h.next<=ql/\∀d,d<g.D.toNat->h.next<=q d/\h.next<=c d else v=.tuple [.F7,I 20]:=by
 have ao:Sb 73 Tu (h.new (.cells (gL g) 23))=fun(k:EV->Ab->R)=>k (.ptr (h.next+1) 0) ((h.new (.cells (gL g) 23)).new (.cells Bh 73)):=rfl
 simp only[qE,gV,Aa,ao];have g4:((h.new (.cells (gL g) 23)).new (.cells Bh 73)).get h.next=some (.cells (gL g) 23):=by rw[Ba _ (aT _)];exact Ad _ _
 have g5:((h.new (.cells (gL g) 23)).new (.cells Bh 73)).get (h.next+1)=some (.cells Bh 73):=Ad _ _;have J:Ext h ((h.new (.cells (gL g) 23)).new (.cells Bh 73)):=(As.new _ _).Dn _;have n1:((h.new (.cells (gL g) 23)).new (.cells Bh 73)).next=h.next+2:=rfl
 generalize (h.new (.cells (gL g) 23)).new (.cells Bh 73)=h1 at g4 g5 J n1⊢;have E:=J.hb hb;simp only[Cz g4 rfl,Ak (show(gL g).length=6 from rfl),Aa];cases hr:rtB g with
 | false=>
  refine(A77 hr h1).Ao ?_;rintro _ h2 ⟨rfl,C⟩;simp only[Aa,I,Ac,show ¬((20:Int)=0) from c_,aG,aB,Z8,Qm];exact .ret ⟨J.trans C,C.hb E,rfl⟩
 | true=>
  have s:=Qu hr;have:=s.d0;have:=s.d1;have:=s.z0;have:=s.z1;obtain⟨m0,m1⟩:=Nz (a:=g.D) (b:=g.Z) (A:=8) (B:=64);refine(A4p hr hK E).Ao ?_;rintro _ h2 ⟨p,ql,qq,c,rfl,C,j,P,nw⟩;have k2:∀i o,h.get i=some o->h2.get i=some o:=fun i o g=>C.at E (J.at hb g)
  have l4:h.next<h2.next:=by have:=C.next;omega
  have l5:h.next+1<h2.next:=by have:=C.next;omega
  have X:=C.at E g4;have ax:=C.at E g5;simp only[Aa,I,Ac,aC,aA];refine Ok.bE (P:=fun v h3=>v=.ptr V 0/\Ext h2.lift h3) ⟨_,_,QU ((dr.ext k2).ext fun i o g=>by rw[Bx];exact g),rfl,As.refl _⟩ (fun _ _ p=>p.2) ?_;rintro _ _ h3 ⟨rfl,_⟩ _ x3;have Y:=x3.hb j;have k3:∀i o,h.get i=some o->h3.get i=some o:=fun i o g=>x3.at j (k2 i o g)
  refine Ok.bE (P:=fun v h4=>v=I n/\Ext h3.lift h4) ⟨_,_,QV ((dr.dev.ext k3).ext fun i o g=>by rw[Bx];exact g),rfl,As.refl _⟩ (fun _ _ p=>p.2) ?_;rintro _ _ h4 ⟨rfl,_⟩ _ x4;have aa:=x4.hb Y;have k4:∀i o,h.get i=some o->h4.get i=some o:=fun i o g=>x4.at Y (k3 i o g)
  have ad:Ext h2 h4:=x3.trans x4;have a1:=ad.at j X;simp only[Aa,Au,Cp l4,Cz a1 rfl,Ak (show(gL g).length=6 from rfl)];refine Ok.bE (P:=fun v W=>v=I (g.D*g.Z)/\Ext h4.lift W) ⟨_,_,No s _,rfl,As.new _ _⟩ (fun _ _ p=>p.2) ?_;rintro _ _ W ⟨rfl,_⟩ _ x5;have ae:=x5.hb aa;have k5:∀i o,h.get i=some o->W.get i=some o:=fun i o g=>x5.at aa (k4 i o g)
  simp only[I,Ac,Z8];have af:Ext h2 W:=ad.trans x5;by_cases hn:(n:Int)=g.D*g.Z
  ·simp only[hn,aC,aA,Aa,Ac]
   refine Ok.bE (P:=fun v h6=>v=.ptr V 0/\Ext W.lift h6) ⟨_,_,QU ((dr.ext k5).ext fun i o g=>by rw[Bx];exact g),rfl,As.refl _⟩ (fun _ _ p=>p.2) ?_;rintro _ _ h6 ⟨rfl,_⟩ _ x6;have a6:=x6.hb ae;have k6:∀i o,h.get i=some o->h6.get i=some o:=fun i o g=>x6.at ae (k5 i o g)
   refine Ok.bE (P:=fun v O=>v=I size/\Ext h6.lift O) ⟨_,_,QW ((dr.dev.ext k6).ext fun i o g=>by rw[Bx];exact g),rfl,As.refl _⟩ (fun _ _ p=>p.2) ?_;rintro _ _ O ⟨rfl,_⟩ _ x7;have a7:=x7.hb a6;have y:Ext h2 O:=af.trans (x6.trans x7);have ag:=y.at j X;simp only[Aa,Au,Cp l4,Cx ag rfl,gL,I,Ac];by_cases hs:size=g.S
   ·subst hs
    simp only[aC,aA,Qm,GZ,Aa];have ba:=y.at j ax;have bb:h.next<O.next:=aL l4 y.next
    have bf:h.next+1<O.next:=aL l5 y.next
    simp only[Aa,Au,Cp bb,Cp bf,Cz ag rfl,Cz ba rfl,Ak (show(gL g).length=6 from rfl),Ak Nt];refine Ok.bE (P:=fun v f=>v=I (g.D*g.Z)/\Ext O.lift f) ⟨_,_,No s _,rfl,As.new _ _⟩ (fun _ _ p=>p.2) ?_;rintro _ _ f ⟨rfl,_⟩ _ x8;have b8:=x8.hb a7;have U:Ext h2 f:=y.trans x8;simp only[Aa,Au,I];rw[<-hn];have bj:Pr [.int .i64 0] 3 (.int .i64 (n:Int)) (.int .i64 (n:Int)) f=some (.slice f.next 0 n n false,f.new (.cells (rep [.int .i64 0] n) 3)):=by
     show Bc (Nat.ble n n) (Bc (Nat.ble n 65536) _ none) none=_;rw[aO (aD n),Aj,aO a_,Aj]
    rw[bj,Ar,Ax (l:=Abr D g p f.next n (-1) (-1) 0) (by kernel_rfl)];simp only[Aa,Au];have ah:Ext f ((f.new (.cells (rep [.int .i64 0] n) 3)).new (.cells (Abr D g p f.next n (-1) (-1) 0) 113)):=(As.new _ _).Dn _;have L:Ext h ((f.new (.cells (rep [.int .i64 0] n) 3)).new (.cells (Abr D g p f.next n (-1) (-1) 0) 113)):=(J.trans C).trans (U.trans ah);refine .ret ⟨L,L.hb hb,?_⟩;rw[aK (by first|exact⟨rfl,hn.symm,rfl⟩|simp[hn]|simp)];refine⟨f.next+1,p,f.next,ql,qq,c,rfl,⟨Ad _ _,?_⟩,P.ext fun i o g=>Ext.at (U.trans ah) j g,?_⟩
    ·rw[Ba _ (aT _),Ad,vU,FG]
    ·have t1:=J.next
     have t2:=C.next
     have t3:=U.next
     exact⟨⟨a_,a_⟩,a_,a_,fun d hd=>by have:=nw.2.2 d hd;omega⟩
   ·have ai:¬size=g.S:=hs
    simp only[ai,aG,aB,Qm,Aa];have L:Ext h O:=(J.trans C).trans y;refine .ret ⟨L,L.hb hb,?_⟩;rw[aH (fun x=>ai x.2.2.symm)]
  ·simp only[hn,aG,aB,Aa,Ac,Qm]
   have L:Ext h W:=(J.trans C).trans af;refine .ret ⟨L,L.hb hb,?_⟩;rw[aH (fun x=>hn x.2.1.symm)]
end
section
section
variable{m D p bl:Nat}{g:Gm}{b u:Int}{bad:Nat->Int}(M:Ab2 h m D p bl n g a b u bad)
include M
theorem Xx:Ci K (.ptr m 0) h=some (.ptr p 0,h):=by simp only[Ci,Aa,M.Ed]
theorem vo:Bw K (.ptr m 0) h=some (.ptr D 0,h):=by simp only[Bw,Aa,M.Da]
theorem Azf:Lo K (.ptr m 0) h=some (.tuple [I a,I b,I u],h):=by simp only[Lo,Aa,M.oa,M.ob,M.ou]
theorem A0l(hb:HB h):Ok (Ca K (.ptr m 0) h) fun v h'=>v=gV g/\Ext h h':=by
 simp only[Ca,Aa];have f:Ab2 (h.new (.cells [.int .i64 0,.int .i64 0,.int .i64 0,.int .i64 0,.int .i64 0,.int .i64 0] 23)) m D p bl n g a b u bad:=M.ext fun i o g=>Ext.at (As.new h _) hb g
 rw[f.ov];refine Ok.st (gL g) (Ad _ _) rfl rfl rfl ?_;rw[Wi (Ae _ _ _) rO.1 rO.2 rfl];exact .ret ⟨rfl,(As.new h _:Ext _ _).Aq (.inr (aD _)) (aT _) _⟩
theorem UI(hb:HB h):Ok (Kc K (.ptr m 0) h) fun v h'=>v=Tu/\Ext h h':=by
 simp only[Kc,Aa];have f:Ab2 (h.new (.cells (List.replicate 256 (.int .u32 0)) 73)) m D p bl n g a b u bad:=M.ext fun i o g=>Ext.at (As.new h _) hb g
 rw[f.table];refine Ok.st Bh (Ad _ _) rfl (by rw[show EV.cells Tu=Bh from rfl,Bb,Nt]) (by rw[show EV.cells Tu=Bh from rfl];exact Bn (by rw[Nt];simp)) ?_;rw[Wi (Ae _ _ _) QT.1 QT.2 Nt];exact .ret ⟨rfl,(As.new h _:Ext _ _).Aq (.inr (aD _)) (aT _) _⟩
end
end
section
section
variable{q c:Nat}(hq:h.get q=some (.cells [.chan c] 199))(hc:h.get c=some (.chan cap (xs.map I)))
include hq hc
theorem yg(x:Int)(f:xs.length<cap):Gw K (.ptr q 0) (I x) h=some (I 0,h.put c (.chan cap ((xs++[x]).map I))):=by
 have hs:nN (.chan c) (I x) h=some (.tuple [.int .i64 0,.bool false],h.put c (.chan cap ((xs++[x]).map I))):=by
  unfold nN;simp only[hc,Ue,bT];rw[aO f,Aj,cI];rfl
 simp only[Gw,Aa,Cx hq rfl,hs,Ac,aB]
theorem Bpa(x:Int)(f:cap<=xs.length):Gw K (.ptr q 0) (I x) h=some (I 17,h):=by
 have hs:nN (.chan c) (I x) h=some (.tuple [.int .i64 (-1),.bool false],h):=by
  unfold nN;simp only[hc,Ue,bT];rw[show Nat.ble (Nat.succ xs.length) cap=false from by
   cases hb:Nat.ble (Nat.succ xs.length) cap with
   | false=>rfl
   | true=>have:=bL hb;omega,Bo]
 simp only[Gw,Aa,Cx hq rfl,hs,Ac,show ¬((-1:Int)=0) from c_,aA]
theorem take_cons {x:Int}{r:List Int}(f:xs=x::r):F9 K (.ptr q 0) h=some (.tuple [I x,I 0],h.put c (.chan cap (r.map I))):=by
 subst f;have hs:nO (.int .i64 0) (.chan c) h=some (.tuple [.int .i64 0,.bool true,I x],h.put c (.chan cap (r.map I))):=by
  unfold nO;simp only[hc,dH]
 simp only[F9,Aa,Cx hq rfl,hs,Ac,aB]
theorem take_nil(f:xs = []):F9 K (.ptr q 0) h=some (.tuple [I 0,I 15],h):=by
 subst f;have hs:nO (.int .i64 0) (.chan c) h=some (.tuple [.int .i64 (-1),.bool false,.int .i64 0],h):=by
  unfold nO;simp only[hc,List.map_nil]
 simp only[F9,Aa,Cx hq rfl,hs,Ac,show ¬((-1:Int)=0) from c_,aA]
end
structure Listed(h0 h:Ab)(v:EV)(c cap:Nat)(xs:List Int)(q':Nat):Prop where
 row:Ce h v q' 3 1 xs.length (xs.map I)
 new:0<xs.length->h0.next<=q'
 chan:h.get c=some (.chan cap (xs.map I))
 chg:As (fun i=>i=c) h0 h
 hb:HB h
theorem Ben{q c:Nat}(A:h0.get q=some (.cells [.chan c] 199))(f:∃b,h0.get c=some (.chan cap b))(O:xs.length<=cap)(U:cap<=4096)(gR:HB h0):∀(m j:Nat) (h:Ab) (s:EV) (q':Nat),xs.length-j<m->j<=xs.length ->
 Ce h s q' 3 1 xs.length (xs.map I)->(0<xs.length->h0.next<=q')->h.get c=some (.chan cap ((xs.take j).map I))->As (fun i=>i=c) h0 h->HB h ->
 Ok (Ib K m (.ptr q 0) s s (I xs.length) (I j) h) fun v h'=>∃q',Listed h0 h' v c cap xs q':=by
 obtain⟨b0,f⟩:=f;have J:q≠c:=Bf A f (by simp);have lc:=gR _ _ f;intro m;induction m with
 | zero=>intro j h s q' hm;omega
 | succ m W=>
  intro j h s q' hm hj row new hc x hb;simp only[Ib,I,Ac,Aa];by_cases B:(j:Int)<xs.length
  ·have y:j<xs.length:=a_
   have hq:h.get q=some (.cells [.chan c] 199):=As.at x gR A J;have C:=row.block a_;simp only[B,aB,Aa,JP];rw[row.ix y,Cx C rfl,br,bB,aE y,dU,G1,yg hq hc xs[j] (by rw[bK];omega),Ar];simp only[JO,Ac];rw[Cn];have e:xs.take j++[xs[j]]=xs.take (j+1):=(cy y).symm;rw[e];have E:c<h.next:=aL lc x.next
   have L:q'≠c:=Bf C hc (by simp);exact W (j+1) _ s q' a_ a_ (row.frame fun _=>Af _ (cX L)) new (Ae _ _ _) (x.Aq (.inl rfl) E _) (hb.put E _)
  ·have:j=xs.length:=a_
   subst this;simp only[B,aA,Aa,Uf];rw[cM]at hc;exact .ret ⟨q',row,new,hc,x,hb⟩
theorem Bfu{q c:Nat}(B:h0.get q=some (.cells [.chan c] 199))(f:∃b,h0.get c=some (.chan cap b))(C:xs.length<=cap)(U:cap<=4096)(gR:HB h0)(hK:5000<K):∀(m j:Nat) (h:Ab) (s:EV) (q':Nat),xs.length-j<m->j<=xs.length ->
 Ce h s q' 3 1 j ((xs.take j).map I)->(0<j->h0.next<=q')->h.get c=some (.chan cap ((xs.drop j).map I))->As (fun i=>i=c) h0 h->HB h ->
 Ok (Ia K m (.ptr q 0) s (I xs.length) (I j) h) fun v h'=>∃q',Listed h0 h' v c cap xs q':=by
 have E:=f;obtain⟨b0,f⟩:=f;have W:q≠c:=Bf B f (by simp);have lc:=gR _ _ f;intro m;induction m with
 | zero=>intro j h s q' hm;omega
 | succ m ih=>
  intro j h s q' hm hj row new hc x hb;simp only[Ia,I,Ac,Aa];by_cases J:(j:Int)<xs.length
  ·have L:j<xs.length:=a_
   have hq:h.get q=some (.cells [.chan c] 199):=As.at x gR B W;have e:xs.drop j=xs[j]::xs.drop (j+1):=cm L;have y:c<h.next:=aL lc x.next
   simp only[J,aB,Aa,JR];rw[take_cons hq hc e];simp only[Aa,I,Ac,aB];have O:Ce (h.put c (.chan cap ((xs.drop (j+1)).map I))) s q' 3 1 j ((xs.take j).map I):=row.frame fun X=>Af _ (cX (Bf (row.block X) hc (by simp)))
   refine Ny (z:=[.int .i64 0]) O (hb.put y _) rfl rfl rfl a_ a_ ?_;intro h2 A n2 c2;have Y:As (fun i=>i=c) h0 (h.put c (.chan cap ((xs.drop (j+1)).map I))):=x.Aq (.inl rfl) y _;have x3:As (fun i=>i=c) h0 h2:=Y.then c2 fun i hi X=>by have:=new hi.1;omega
   simp only[JQ,Ac];rw[Cn];have e2:(xs.take j).map I++EV.cells (.int .i64 xs[j])=(xs.take (j+1)).map I:=by
    rw[cy L,cI];rfl
   rw[e2]at A;refine ih (j+1) _ _ _ a_ a_ A (fun _=>by have:=Y.next;omega) ?_ x3 (c2.hb (hb.put y _));rw[c2.get _ (by rw[Ab.P9];exact y) (fun hx=>by
    have:=row.block hx.1;exact Bf this hc (by simp) hx.2.symm)]
   exact Ae _ _ _
  ·have:j=xs.length:=a_
   subst this;rw[cM]at row;simp only[J,aA,Aa,Uk];rw[row.Gi];rw[List.drop_length]at hc;exact Ben B E C U gR K 0 h s q' a_ a_ row new hc x hb
theorem A1k{q c:Nat}(j:h0.get q=some (.cells [.chan c] 199))(f:h0.get c=some (.chan cap (xs.map I)))(y:xs.length<=cap)(A:cap<=4096)(gR:HB h0)(hK:5000<K):
 Ok (Ts K (.ptr q 0) h0) fun v h'=>∃q',Listed h0 h' v c cap xs q':=by
 simp only[Ts,dr];rw[QQ j f,Ar,bT];exact Bfu j ⟨_,f⟩ y A gR hK K 0 h0 .Am 0 a_ a_ (.nil _ _ _ _) (fun x=>absurd x (bX _)) f (As.refl _) gR
theorem Listed.same{c:Nat}(l:Listed h0 h v c cap xs q')(hc:h0.get c=some (.chan cap (xs.map I))):∀i,i<h0.next->h.get i=h0.get i:=by
 intro i hi;by_cases e:i=c
 ·subst e;rw[l.chan,hc]
 ·exact l.chg.get i hi e
end
section
theorem Brk:(Fa TT 66 0).2.1 = [9,10]:=by kernel_rfl
theorem Brd:(Fa TT 156 0).2.1 = [19,20]:=by kernel_rfl
section
variable (H:Cf disp)
include H
theorem Bem(he:1<=e){z x i:Int}(E:h.get l0=some (Aw TT 66 14 0 tm .ready none d0))(t3:tmp tm 3=.ptr b3 0)(t4:tmp tm 4=.ptr b4 0)(X:h.get b3=some (.cells [I z] 3))(O:h.get b4=some (.cells [.bool false] 4))(hb:HB h):
 ∃h',Ag TT disp K (e+1) true l0 [I i,I x] h=some (.bool (decide (¬x=z)),h')/\h'.get l0=some (Aw TT 66 14 0 tm (if x=z then .done else .ready) (if x=z then some .ret else none) d0)/\h'.get b4=some (.cells [.bool (decide (x=z))] 4)/\As (fun j=>j=l0\/j=b4) h h'/\HB h':=by
 have y:=E;unfold Aw at y;rw[Brk]at y;rw[Apz H he tm h (I i) (I x) y,t3,t4];have J:=hb _ _ E;have aa:=hb _ _ O;have U:l0≠b3:=Bf E X (by simp[Aw]);have f:l0≠b4:=Bf E O (by simp[Aw]);simp only[IA,Zg E,H_,dr];have L:(h.put l0 (Aw TT 66 14 0 tm .busy none d0)).get b3=some (.cells [I z] 3):=by rw[Af _ U];exact X
 have A:(h.put l0 (Aw TT 66 14 0 tm .busy none d0)).get b4=some (.cells [.bool false] 4):=by rw[Af _ f];exact O
 have B:(h.put l0 (Aw TT 66 14 0 tm .busy none d0)).get l0=some (Aw TT 66 14 0 tm .busy none d0):=Ae _ _ _;have W:As (fun j=>j=l0\/j=b4) h (h.put l0 (Aw TT 66 14 0 tm .busy none d0)):=(As.refl h).Aq (.inl (.inl rfl)) J _;have C:HB (h.put l0 (Aw TT 66 14 0 tm .busy none d0)):=hb.put J _;have n1:(h.put l0 (Aw TT 66 14 0 tm .busy none d0)).next=h.next:=rfl
 generalize h.put l0 (Aw TT 66 14 0 tm .busy none d0)=h1 at L A B W C n1⊢;simp only[Cx L rfl,Aa,I,Ac];by_cases Y:x=z
 ·simp only[Y,aB,Aa,aC,aA,bN]
  rw[ly (o:=0) (n:=1) (v:=.bool true) (l':=[.bool true]) A rfl rfl rfl,Rc (by rw[Af _ (cX f)];exact B)];exact⟨_,rfl,Ae _ _ _,by rw[Af _ f];exact Ae _ _ _,(W.Aq (.inl (.inr rfl)) a_ _).Aq (.inl (.inl rfl)) (by rw[Ab.P9];omega) _,(C.put a_ _).put (by rw[Ab.P9];omega) _⟩
 ·simp only[Y,aA,Aa,aG,aB,ak]
  rw[Rc B];exact⟨_,rfl,Ae _ _ _,by rw[Af _ f];exact A,W.Aq (.inl (.inl rfl)) a_ _,C.put a_ _⟩
theorem Bgh(he:2<=e){l1 d1 b5:Nat}{z x i dd:Int}(hg:h.get l0=some (Aw TT 66 14 0 tm .ready none d0))(t3:tmp tm 3=.ptr b3 0)(t4:tmp tm 4=.ptr b4 0)(g3:h.get b3=some (.cells [I z] 3))(g4:h.get b4=some (.cells [.bool false] 4))
 (f:h.get l1=some (Aw TT 156 27 0 iG .ready none d1)) (u2:tmp iG 2=.ptr b2 0) (u3:tmp iG 3=.ptr b5 0) (g2:h.get b2=some (.cells [.Vh l0] 159)) (g5:h.get b5=some (.cells [I dd] 3)) (hb:HB h) :
 ∃h',Ag TT disp K (e+1) true l1 [I i,I x] h=some (.bool (decide (¬x=z)),h')/\h'.get l0=some (Aw TT 66 14 0 tm (if x=z then .done else .ready) (if x=z then some .ret else none) d0)/\h'.get l1=some (Aw TT 156 27 0 iG (if x=z then .done else .ready) (if x=z then some .ret else none) d1) /\
  h'.get b4=some (.cells [.bool (decide (x=z))] 4)/\As (fun j=>j=l0\/j=b4\/j=l1) h h'/\HB h':=by
 obtain⟨e,rfl⟩:=fc e;have C:=f;unfold Aw at C;rw[Brd]at C;rw[Ako H a_ iG h (I i) (I x) C,u2,u3];have O:=hb _ _ f;have E:l1≠l0:=Bf f hg (by simp[Aw]);have A:∀b o,h.get b=some o->(∀st p,o≠Aw TT 156 27 0 iG st p d1)->(h.put l1 (Aw TT 156 27 0 iG .busy none d1)).get b=some o:=fun b o gb hn=>by
  rw[Af _ (Bf f gb (fun x=>hn _ _ x.symm))];exact gb
 simp only[JH,Zg f,Yc,dr];have q0:=A _ _ hg (by intros;simp[Aw]);have q2:=A _ _ g2 (by intros;simp[Aw]);have q3:=A _ _ g3 (by intros;simp[Aw]);have W:=A _ _ g4 (by intros;simp[Aw]);have q5:=A _ _ g5 (by intros;simp[Aw]);have X:(h.put l1 (Aw TT 156 27 0 iG .busy none d1)).get l1=some (Aw TT 156 27 0 iG .busy none d1):=Ae _ _ _;have x1:As (fun j=>j=l0\/j=b4\/j=l1) h (h.put l1 (Aw TT 156 27 0 iG .busy none d1)):=(As.refl h).Aq (.inl (.inr (.inr rfl))) O _;have J:HB (h.put l1 (Aw TT 156 27 0 iG .busy none d1)):=hb.put O _;have n1:(h.put l1 (Aw TT 156 27 0 iG .busy none d1)).next=h.next:=rfl
 generalize h.put l1 (Aw TT 156 27 0 iG .busy none d1)=h1 at q0 X q2 q3 W q5 x1 J n1⊢;simp only[Cx q2 rfl,Cx q5 rfl,Aa];have hc:T5 (Ag TT disp K (e+1) false) (Ag TT disp K (e+1) true) (.Vh l0) [I dd,I x] h1=Ag TT disp K (e+1) true l0 [I dd,I x] h1:=rfl;rw[hc];obtain⟨h2,r1,U,L,Y,r5⟩:=Bem (K:=K) H (e:=e) a_ (i:=dd) (x:=x) q0 t3 t4 q3 W J;rw[r1,Ar];have B:h2.get l1=some (Aw TT 156 27 0 iG .busy none d1):=As.at Y J X (fun y=>by
  rcases y with y|y
  ·exact E y
  ·exact Bf X W (by simp[Aw]) y)
 have n2:=Y.next
 have x2:As (fun j=>j=l0\/j=b4\/j=l1) h h2:=x1.trans (Y.mono fun j hj=>hj.elim .inl (fun y=>.inr (.inl y)));by_cases hx:x=z
 ·simp only[hx,aC,aA,aB,bN]at U L⊢
  simp only[Aa];rw[Rc B];refine⟨_,rfl,?_,Ae _ _ _,?_,x2.Aq (.inl (.inr (.inr rfl))) a_ _,r5.put a_ _⟩
  ·rw[Af _ E];exact U
  ·rw[Af _ (Bf B L (by simp[Aw]))];exact L
 ·simp only[hx,aG,aA,aB,ak]at U L⊢
  simp only[Aa];rw[Rc B];refine⟨_,rfl,?_,Ae _ _ _,?_,x2.Aq (.inl (.inr (.inr rfl))) a_ _,r5.put a_ _⟩
  ·rw[Af _ E];exact U
  ·rw[Af _ (Bf B L (by simp[Aw]))];exact L
end
end
section
structure A9s(h:Ab)(l0 d0:Nat)(tm:Ay)(b3 b4:Nat)(z:Int)(b2:Nat)(found:Bool):Prop where
 lp:h.get l0=some (Aw TT 66 14 0 tm (if found then .done else .ready) (if found then some .ret else none) d0)
 c3:h.get b3=some (.cells [I z] 3)
 c4:h.get b4=some (.cells [.bool found] 4)
 c2:h.get b2=some (.cells [.Vh l0] 159)
 hb:HB h
structure yh(tm:Ay)(b3 b4:Nat):Prop where
 t3:tmp tm 3=.ptr b3 0
 t4:tmp tm 4=.ptr b4 0
section
variable (H:Cf disp){z:Int}(T0:yh tm b3 b4){l1 d1:Nat}{b5:Nat}{dd:Int}(u2:tmp iG 2=.ptr b2 0)(u3:tmp iG 3=.ptr b5 0)
include H T0 u2 u3
theorem Bgi(he:3<=e)(hn:xs.length<=4096):∀(m i:Nat) (h:Ab) (s:EV) (q':Nat),xs.length-i<m->i<=xs.length->A9s h l0 d0 tm b3 b4 z b2 false->h.get l1=some (Aw TT 156 27 0 iG .ready none d1)->h.get b5=some (.cells [I dd] 3) ->
 Ce h s q' 3 1 xs.length (xs.map I)->(xs.take i).contains z=false ->
 Ok (Jn (Ag TT disp K e false) (Ag TT disp K e true) K m (.Vh l1) s (I xs.length) (I i) h) fun v h'=>v=.tuple []/\A9s h' l0 d0 tm b3 b4 z b2 (xs.contains z)/\h'.get l1=some (Aw TT 156 27 0 iG (if xs.contains z then .done else .ready) (if xs.contains z then some .ret else none) d1)/\As (fun j=>j=l0\/j=b4\/j=l1) h h':=by
 intro m;induction m with
 | zero=>intro i h s q' hm;omega
 | succ m ih=>
  intro i h s q' hm hi L g1 g5 row A;simp only[Jn,I,Ac,Aa];by_cases U:(i:Int)<xs.length
  ·have B:i<xs.length:=a_
   have C:=row.block a_;simp only[U,aB,Aa,KL];rw[row.ix B,Cx C rfl,br,bB,aE B,dU,G1];obtain⟨e,rfl⟩:=fc e;have hc:T5 (Ag TT disp K (e+1) false) (Ag TT disp K (e+1) true) (.Vh l1) [I i,I xs[i]] h=Ag TT disp K (e+1) true l1 [I i,I xs[i]] h:=rfl;obtain⟨h2,r1,Y,r3,r4,r5,r6⟩:=Bgh (K:=K) H (e:=e) a_ (i:=i) (x:=xs[i]) L.lp T0.t3 T0.t4 L.c3 L.c4 g1 u2 u3 L.c2 g5 L.hb;have ag:∀k:EV->Ab->R,Ao (T5 (Ag TT disp K (e+1) false) (Ag TT disp K (e+1) true) (.Vh l1) [.int .i64 (i:Int),I xs[i]] h) k=k (.bool (decide (¬xs[i]=z))) h2:=fun k=>by
    have:T5 (Ag TT disp K (e+1) false) (Ag TT disp K (e+1) true) (.Vh l1) [.int .i64 (i:Int),I xs[i]] h=some (.bool (decide (¬xs[i]=z)),h2):=hc.trans r1;rw[this,Ar]
   rw[ag];have f:∀b o,h.get b=some o->(∀st p,o≠Aw TT 66 14 0 tm st p d0)->(∀st p,o≠Aw TT 156 27 0 iG st p d1)->(∀v,o≠.cells [v] 4)->h2.get b=some o:=fun b o E n0 n1 n4=>As.at r5 L.hb E fun y=>by
    rcases y with rfl|rfl|rfl
    ·rw[L.lp]at E;cases E;exact n0 _ _ rfl
    ·rw[L.c4]at E;cases E;exact n4 _ rfl
    ·rw[g1]at E;cases E;exact n1 _ _ rfl
   have k3:=f _ _ L.c3 (by intros;simp[Aw]) (by intros;simp[Aw]) (by intros;simp);have k2:=f _ _ L.c2 (by intros;simp[Aw]) (by intros;simp[Aw]) (by intros;simp);have k5:=f _ _ g5 (by intros;simp[Aw]) (by intros;simp[Aw]) (by intros;simp);by_cases O:xs[i]=z
   ·have W:xs.contains z=true:=by
     rw[List.contains_iff_mem,<-O];exact bA B
    simp only[O,bN,aB]at Y r3 r4;simp only[O,aC,aA,Aa];exact .ret ⟨rfl,by rw[W];exact⟨Y,k3,r4,k2,r6⟩,by rw[W];exact r3,r5⟩
   ·simp only[O,ak,aA]at Y r3 r4
    simp only[O,aG,aB,Aa,KK,Ac];rw[Cn];have J:Ce h2 s q' 3 1 xs.length (xs.map I):=row.frame fun _=>by
     rw[f _ _ C (by intros;simp[Aw]) (by intros;simp[Aw]) (by intros;simp),C]
    have X:(xs.take (i+1)).contains z=false:=by
     rw[cy B];simp only[List.contains_eq_mem,bH,aN,dI]at A⊢;intro y;rcases y with y|y
     ·exact A y
     ·exact O y.symm
    refine(ih (i+1) h2 s q' a_ a_ ⟨Y,k3,r4,k2,r6⟩ r3 k5 J X).mono ?_;rintro v h' ⟨a1,a2,a3,a4⟩;exact⟨a1,a2,a3,r5.trans a4⟩
  ·have:i=xs.length:=a_
   subst this;simp only[U,aA,Aa];rw[cM]at A;exact .ret ⟨rfl,by rw[A];exact L,by rw[A];exact g1,As.refl _⟩
theorem Bop(he:3<=e)(hK:5000<K){C q c:Nat}(E:h.get C=some (.cells [.ptr q 0] 166))(hq:h.get q=some (.cells [.chan c] 199))(hc:h.get c=some (.chan cap (xs.map I)))(A:xs.length<=cap)(B:cap<=4096)
 (L:A9s h l0 d0 tm b3 b4 z b2 false) (J:h.get l1=some (Aw TT 156 27 0 iG .ready none d1)) (O:h.get b5=some (.cells [I dd] 3)) :
 Ok (Ag TT disp K (e+1) false 190 [.Vh l1,.ptr C 0] h) fun v h'=>A9s h' l0 d0 tm b3 b4 z b2 (xs.contains z)/\h'.get l1=some (Aw TT 156 27 0 iG (if xs.contains z then .done else .ready) (if xs.contains z then some .ret else none) d1) /\
  (∀i,i<h.next->¬(i=l0\/i=b4\/i=l1)->h'.get i=h.get i)/\As (fun j=>j=c\/j=l0\/j=b4\/j=l1) h h':=by
 rw[Anc H a_];simp only[KM,Cx E rfl,Aa];refine(A1k hq hc A B L.hb hK).Ao ?_;rintro s h1 ⟨q',y⟩;rw[y.row.Gi];have same:=y.same hc;have f:∀i o,h.get i=some o->h1.get i=some o:=fun i o g=>by rw[same i (L.hb _ _ g)];exact g
 have U:A9s h1 l0 d0 tm b3 b4 z b2 false:=⟨f _ _ L.lp,f _ _ L.c3,f _ _ L.c4,f _ _ L.c2,y.hb⟩;refine(Bgi (K:=K) H T0 u2 u3 he a_ K 0 h1 s q' a_ a_ U (f _ _ J) (f _ _ O) y.row (by simp)).mono ?_;rintro v h' ⟨_,W,a3,a4⟩;refine⟨W,a3,fun i hi hn=>by rw[a4.get i (aL hi y.chg.next) hn,same i hi],?_⟩;exact(y.chg.mono fun i hi=>.inl hi).trans (a4.mono fun i hi=>.inr hi)
end
end
section
def hasB(ps:Nat->List Int)(n:Nat)(z:Int):Bool:=(List.range n).any fun d=>(ps d).contains z
theorem Bhi(ps:Nat->List Int)(n:Nat)(z:Int):hasB ps (n+1) z=(hasB ps n z||(ps n).contains z):=by
 unfold hasB;rw[dB,List.any_append];simp
theorem zV{z:Int}:hasB ps n z=true↔∃d,d<n/\z∈ps d:=by
 unfold hasB;simp
theorem Bmp{d:Nat}{z:Int}(hd:d<n)(h:(ps d).contains z=true):hasB ps n z=true:=zV.2 ⟨d,hd,List.contains_iff_mem.1 h⟩
structure Mid(h0 h:Ab)(C:Nat->Prop)(l0 d0:Nat)(tm:Ay)(b3 b4:Nat)(z:Int)(b2:Nat)(found:Bool):Prop where
 kp:Kp C h0 h
 look:A9s h l0 d0 tm b3 b4 z b2 found
 cd:h.get d0=some (.deferred true)
 n0:h0.next<=l0
 n4:h0.next<=b4
 nd:h0.next<=d0
section
variable (H:Cf disp){p:Nat}{q c:Nat->Nat}{g:Gm}(P:E3 h0 p ql n q c g ps)(gR:HB h0)(rA:∀d,d<n->(ps d).length<=g.Z.toNat)(hZ:g.Z<=4096)(hn:n<=64)
variable{z:Int}(T0:yh tm b3 b4)
include H P gR rA hZ hn T0
theorem Bim(he:4<=e)(hK:5000<K):∀(m i:Nat) (h:Ab) (t1:Ay) (ds:List Nat),n-i<m->i<=n->Mid h0 h (fun x=>∃d,d<n/\x=c d) l0 d0 tm b3 b4 z b2 false->tmp t1 2=.ptr b2 0 ->
 ds.Nodup->(∀d∈ds,h.get d=some (.deferred true)/\h0.next<=d/\d≠d0)->hasB ps i z=false ->
 Ok (Lj (Ag TT disp K e false) (Ag TT disp K e true) K m t1 (.slice ql 0 n n true) (I n) (I i) h ds) fun v h'=>Mid h0 h' (fun x=>∃d,d<n/\x=c d) l0 d0 tm b3 b4 z b2 (hasB ps n z):=by
 intro m;induction m with
 | zero=>intro i h t1 ds hm;omega
 | succ m ih=>
  intro i h t1 ds hm hi M u2 ah ad ai;have fin:∀(h2:Ab) (dl:List Nat) (found:Bool),found=hasB ps n z->Mid h0 h2 (fun x=>∃d,d<n/\x=c d) l0 d0 tm b3 b4 z b2 found->dl.Nodup->(∀d∈dl,h2.get d=some (.deferred true)/\h0.next<=d/\d≠d0) ->
   Ok (Fv dl h2 fun h=>some (EV.tuple [],h)) fun v h'=>Mid h0 h' (fun x=>∃d,d<n/\x=c d) l0 d0 tm b3 b4 z b2 (hasB ps n z):=by
   rintro h2 dl found rfl M2 a6 U;refine Ok.unwind a6 (fun d hd=>(U d hd).1) M2.look.hb fun h3 ch b6=>.ret ?_
   have nk:∀b o,h2.get b=some o->o≠.deferred true->¬(b∈dl):=fun b o J f hb=>by rw[(U b hb).1]at J;cases J;exact f rfl
   have a:∀b o,h2.get b=some o->o≠.deferred true->h3.get b=some o:=fun b o J f=>As.at ch M2.look.hb J (nk b o J f)
   refine⟨M2.kp.sw ch fun i hi=>(U i hi).2.1,⟨a _ _ M2.look.lp (by simp[Aw]),a _ _ M2.look.c3 (by simp),a _ _ M2.look.c4 (by simp),a _ _ M2.look.c2 (by simp),ch.hb M2.look.hb⟩,As.at ch M2.look.hb M2.cd (fun y=>(U _ y).2.2 rfl),M2.n0,M2.n4,M2.nd⟩
  simp only[Lj,I,Ac,Aa];by_cases aj:(i:Int)<n
  ·have A:i<n:=a_
   have a7:∀b o,h0.get b=some o->h.get b=some o:=fun b o J=>M.kp.at gR J
   have P1:=P.ext a7;simp only[aj,aB,Aa,JF];rw[P1.rowAt.ix A,P1.nf A]
   try simp only[Aa]
   refine Ok.gK (Ad _ _) rfl rfl (by show 0<1;decide) ?_;have b8:=M.kp.chg.next
   have x1:Ext h ((h.new (.cells [.int .i64 0] 3)).put h.next (.cells [EV.int .i64 (i:Int)] 3)):=(As.new _ _:Ext h _).Aq (.inr (aD _)) (aT _) _;have g5:((h.new (.cells [.int .i64 0] 3)).put h.next (.cells [EV.int .i64 (i:Int)] 3)).get h.next=some (.cells [I i] 3):=Ae _ _ _
   simp only[List.set];generalize (h.new (.cells [.int .i64 0] 3)).put h.next (.cells [EV.int .i64 (i:Int)] 3)=h1 at x1 g5⊢
   have bf:=x1.hb M.look.hb;have ca:=x1.next
   simp only[wg,Aa];have x2:Ext h (h1.new (.cells [.ptr (q i) 0] 166)):=x1.Dn _;have g6:(h1.new (.cells [.ptr (q i) 0] 166)).get h1.next=some (.cells [.ptr (q i) 0] 166):=Ad _ _
   have al:(h1.new (.cells [.ptr (q i) 0] 166)).get h.next=some (.cells [I i] 3):=by rw[Ba _ (bf _ _ g5)];exact g5
   have n2:h1.next<(h1.new (.cells [.ptr (q i) 0] 166)).next:=aT _
   generalize h1.new (.cells [.ptr (q i) 0] 166)=h2 at x2 g6 al n2⊢;have bj:=x2.hb M.look.hb;generalize af:(((((((t1.put 13 (some (EV.bool true))).put 14 (some (EV.int .i64 (i:Int)))).put 15 (some (EV.ptr ql (i*1)))).put 16 (some (EV.ptr (q i) 0))).put 3 (some (EV.ptr h.next 0))).put 4 (some (EV.ptr (q i) 0))).put 17 (some (EV.ptr (q i) 0))).put 18 (some (EV.func 190 [] [EV.ptr h1.next 0]))=t2;have v2:tmp t2 2=.ptr b2 0:=by rw[<-af];simp only[Iu,reduceIte,Nat.reduceEqDiff,u2]
   have v3:tmp t2 3=.ptr h.next 0:=by rw[<-af];simp only[Iu,reduceIte,Nat.reduceEqDiff]
   have bk:∀w,tmp ((t2.put 26 (some w)).put 12 (some w)) 2=.ptr b2 0:=fun w=>by simp only[Iu,reduceIte,Nat.reduceEqDiff,v2]
   clear af;refine Ok.range ?_;have x3:Ext h (Cd TT 156 27 0 t2 h2):=x2.trans Jd;have aq:=x3.hb M.look.hb;have C:∀b o,h.get b=some o->(Cd TT 156 27 0 t2 h2).get b=some o:=fun b o J=>x3.at M.look.hb J
   have Y:∀b o,h2.get b=some o->(Cd TT 156 27 0 t2 h2).get b=some o:=fun b o J=>Ext.at Jd bj J
   have L3:A9s (Cd TT 156 27 0 t2 h2) l0 d0 tm b3 b4 z b2 false:=⟨C _ _ M.look.lp,C _ _ M.look.c3,C _ _ M.look.c4,C _ _ M.look.c2,aq⟩;have P3:=P1.ext C;obtain⟨e,rfl⟩:=fc e;refine(Bop (K:=K) H T0 (l1:=h2.next+1) (d1:=h2.next) v2 v3 (e:=e) a_ hK (Y _ _ g6) (P3.que i A) (P3.chan i A) (rA i A) a_ L3 Ju (Y _ _ al)).mono ?_;rintro v h4 ⟨L4,E,B,aw⟩;have cf:=aw.next
   have cl:h2.next+1<(Cd TT 156 27 0 t2 h2).next:=by rw[Az9];omega
   have bn:Kp (fun x=>∃d,d<n/\x=c d) h0 h4:=by
    refine⟨(M.kp.chg.trans (Ext.to x3)).then aw ?_,fun j hj=>?_⟩
    ·rintro j (rfl|rfl|rfl|rfl) hl
     ·exact⟨i,A,rfl⟩
     ·have:=M.n0;omega
     ·have:=M.n4;omega
     ·have:=x2.next;omega
    ·have bo:j<(Cd TT 156 27 0 t2 h2).next:=by have:=x3.next;omega
     rw[B j bo (by rintro(rfl|rfl|rfl)<;>(have:=M.n0;have:=M.n4;have:=x2.next;omega)),x3.get j a_ id];exact M.kp.same j hj
   have bp:h4.get h2.next=some (.deferred true):=by
    rw[B _ a_ ?_]
    ·exact La
    ·rintro(y|y|y)
     ·have:=M.look.hb _ _ M.look.lp;omega
     ·have:=M.look.hb _ _ M.look.c4;omega
     ·omega
   have L:∀d,h.get d=some (.deferred true)->h4.get d=some (.deferred true):=fun d gd=>by
    have ax:=C _ _ gd;rw[B d (aq _ _ ax) ?_]
    ·exact ax
    ·rintro(rfl|rfl|rfl)
     ·rw[M.look.lp]at gd;cases gd
     ·rw[M.look.c4]at gd;cases gd
     ·have:=M.look.hb _ _ gd;omega
   have bt:∀o,h4.get (h2.next+1)=some o->∀b o',h4.get b=some o'->(∀st p,o'≠Aw TT 156 27 0 t2 st p h2.next)->b≠h2.next+1:=by
    intro o ho b o' O f e';subst e';rw[E]at O;cases O;exact f _ _ rfl
   have W:∀(p5:Option Code),Mid h0 (h4.put (h2.next+1) (Aw TT 156 27 0 t2 .exhausted p5 h2.next)) (fun x=>∃d,d<n/\x=c d) l0 d0 tm b3 b4 z b2 ((ps i).contains z):=by
    intro p5;have ay:h2.next+1<h4.next:=a_
    have pn:∀b o',h4.get b=some o'->(∀st p,o'≠Aw TT 156 27 0 t2 st p h2.next)->(h4.put (h2.next+1) (Aw TT 156 27 0 t2 .exhausted p5 h2.next)).get b=some o':=fun b o' O f=>by
     rw[Af _ (cX (bt _ E b o' O f))];exact O
    refine⟨bn.Aq (by have:=x2.next;omega) ay _,⟨pn _ _ L4.lp (by intros;simp[Aw]),pn _ _ L4.c3 (by intros;simp[Aw]),pn _ _ L4.c4 (by intros;simp[Aw]),pn _ _ L4.c2 (by intros;simp[Aw]),L4.hb.put ay _⟩,pn _ _ (L _ M.cd) (by intros;simp[Aw]),M.n0,M.n4,M.nd⟩
   have aa:∀(p5:Option Code),∀d∈h2.next::ds,(h4.put (h2.next+1) (Aw TT 156 27 0 t2 .exhausted p5 h2.next)).get d=some (.deferred true)/\h0.next<=d/\d≠d0:=by
    intro p5 d hd;rcases bZ.1 hd with rfl|hd
    ·exact⟨by rw[Af _];exact bp,by have:=x2.next;omega,by have:=M.look.hb _ _ M.cd;omega⟩
    ·obtain⟨a,b,c'⟩:=ad d hd
     exact⟨by rw[Af _ (by have:=M.look.hb _ _ a;omega)];exact L _ a,b,c'⟩
   have a1:(h2.next::ds).Nodup:=cA.2 ⟨fun hd=>by have:=M.look.hb _ _ (ad _ hd).1;omega,ah⟩;cases X:(ps i).contains z with
   | true=>
    rw[X]at E W;refine .inr ⟨E,?_⟩;exact fin _ _ true (Bmp A X).symm (W _) a1 (aa _)
   | false=>
    rw[X]at E W;refine .inl ⟨E,?_⟩;simp only[Pk,Ac];rw[Cn];exact ih (i+1) _ _ _ a_ a_ (W _) (bk _) a1 (aa _) (by rw[Bhi,ai,X];rfl)
  ·have:i=n:=a_
   subst this;simp only[aj,aA,Aa];exact fin h ds false ai.symm M ah ad
end
section
variable (H:Cf disp){p:Nat}{q c:Nat->Nat}{g:Gm}(P:E3 h0 p ql n q c g ps)(gR:HB h0)(rA:∀d,d<n->(ps d).length<=g.Z.toNat)(hZ:g.Z<=4096)(hn:n<=64)
include H P gR rA hZ hn
theorem BL {d:Nat}(hd:7<=d)(hK:5000<K)(z:Int):Ok (Ag TT disp K d false 66 [.ptr p 0,I z] h0) fun v h'=>v=.bool (hasB ps n z)/\Kp (fun x=>∃d,d<n/\x=c d) h0 h'/\HB h':=by
 obtain⟨e,rfl⟩:∃k,d=k+2:=⟨d-2,a_⟩;rw[Au9 H a_];simp only[H',I,Aa,wc];have x1:Ext h0 (((h0.new (.cells [.int .i64 z] 3)).new (.cells [.bool false] 4)).new (.cells [.ptr p 0] 101)):=((As.new _ _).Dn _).Dn _;have n1:(((h0.new (.cells [.int .i64 z] 3)).new (.cells [.bool false] 4)).new (.cells [.ptr p 0] 101)).next=h0.next+3:=rfl
 have B:(((h0.new (.cells [.int .i64 z] 3)).new (.cells [.bool false] 4)).new (.cells [.ptr p 0] 101)).get (h0.next+2)=some (.cells [.ptr p 0] 101):=Ad _ _;have g4:(((h0.new (.cells [.int .i64 z] 3)).new (.cells [.bool false] 4)).new (.cells [.ptr p 0] 101)).get (h0.next+1)=some (.cells [.bool false] 4):=by
  rw[Ba _ (aT _)];exact Ad _ _
 have g3:(((h0.new (.cells [.int .i64 z] 3)).new (.cells [.bool false] 4)).new (.cells [.ptr p 0] 101)).get h0.next=some (.cells [I z] 3):=by
  rw[Ba _ (show h0.next<h0.next+2 from a_),Ba _ (show h0.next<h0.next+1 from a_)];exact Ad _ _
 have ai:((h0.new (.cells [.int .i64 z] 3)).new (.cells [.bool false] 4)).next=h0.next+2:=rfl
 have aj:(h0.new (.cells [.int .i64 z] 3)).next=h0.next+1:=rfl
 rw[ai,aj];generalize ((h0.new (.cells [.int .i64 z] 3)).new (.cells [.bool false] 4)).new (.cells [.ptr p 0] 101)=h1 at x1 n1 B g4 g3⊢;have O:=x1.hb gR;generalize U:(((((Tr.nil.put 0 (some (EV.ptr p 0))).put 1 (some (EV.int .i64 z))).put 3 (some (EV.ptr h0.next 0))).put 4 (some (EV.ptr (h0.next+1) 0))).put 7 (some (EV.ptr p 0))).put 8 (some (EV.func 156 [] [EV.ptr (h0.next+2) 0]))=tm;have T0:yh tm h0.next (h0.next+1):=⟨by rw[<-U];simp only[Iu,reduceIte,Nat.reduceEqDiff],by rw[<-U];simp only[Iu,reduceIte,Nat.reduceEqDiff]⟩
 clear U;refine Ok.range ?_;rw[Aqv H a_];simp only[JG,Aa];have x2:Ext h1 (Cd TT 66 14 0 tm h1):=Jd;have aa:=x2.hb O;have al:Sb 159 (.Vh (h1.next+1)) (Cd TT 66 14 0 tm h1)=fun(k:EV->Ab->R)=>k (.ptr (h1.next+2) 0) ((Cd TT 66 14 0 tm h1).new (.cells [.Vh (h1.next+1)] 159)):=rfl
 rw[al];have x3:Ext h1 ((Cd TT 66 14 0 tm h1).new (.cells [.Vh (h1.next+1)] 159)):=x2.Dn _;have k2:((Cd TT 66 14 0 tm h1).new (.cells [.Vh (h1.next+1)] 159)).get (h1.next+2)=some (.cells [.Vh (h1.next+1)] 159):=Ad _ _;have kl:((Cd TT 66 14 0 tm h1).new (.cells [.Vh (h1.next+1)] 159)).get (h1.next+1)=some (Aw TT 66 14 0 tm .ready none h1.next):=by rw[Ba _ (aa _ _ Ju)];exact Ju
 have kd:((Cd TT 66 14 0 tm h1).new (.cells [.Vh (h1.next+1)] 159)).get h1.next=some (.deferred true):=by rw[Ba _ (aa _ _ La)];exact La
 generalize (Cd TT 66 14 0 tm h1).new (.cells [.Vh (h1.next+1)] 159)=h3 at x3 k2 kl kd⊢;have ao:=x3.hb O;have C:∀b o,h1.get b=some o->h3.get b=some o:=fun b o B=>x3.at O B
 have P3:E3 h3 p ql n q c g ps:=P.ext fun b o B=>C _ _ (x1.at gR B)
 simp only[Cx (C _ _ B) rfl,Aa,P3.list];have M3:Mid h0 h3 (fun x=>∃d,d<n/\x=c d) (h1.next+1) h1.next tm h0.next (h0.next+1) z (h1.next+2) false:=
  ⟨Ext.kp (x1.trans x3),⟨kl,C _ _ g3,C _ _ g4,k2,ao⟩,kd,a_,a_,a_⟩
 refine(Bim (K:=K) H P gR rA hZ hn T0 (e:=e) a_ hK K 0 h3 _ [] a_ a_ M3 (by simp only[Iu,reduceIte,Nat.reduceEqDiff]) dE (fun d hd=>by cases hd) rfl).mono ?_;rintro v h4 j;have ad:=j.look.hb _ _ j.look.lp;have nl:∀b o st J,h4.get b=some o->(∀st p,o≠Aw TT 66 14 0 tm st p h1.next)->(h4.put (h1.next+1) (Aw TT 66 14 0 tm st J h1.next)).get b=some o:=fun b o st J B aq=>by
  rw[Af _ (Bf j.look.lp B (fun y=>aq _ _ y.symm))];exact B
 have L:∀st J,Kp (fun x=>∃d,d<n/\x=c d) h0 (h4.put (h1.next+1) (Aw TT 66 14 0 tm st J h1.next)):=fun st J=>j.kp.Aq a_ ad _
 have E:∀st J,HB (h4.put (h1.next+1) (Aw TT 66 14 0 tm st J h1.next)):=fun st J=>j.look.hb.put ad _
 have f:∀(A:Ab) (b:Bool),A.get (h0.next+1)=some (.cells [.bool b] 4)->Iq TT [.c (.ptr (h0.next+1) 0) 4] A=some (.bool b,A):=by
  intro A b hg;have hr:I6 A (h0.next+1) 0 1=some [.bool b]:=by unfold I6;rw[hg];rfl
  unfold Iq;simp only[jV,show TT.size 4=some 1 by kernel_rfl,show TT.agg 4=some false by kernel_rfl,hr]
 cases hf:hasB ps n z with
 | true=>
  rw[hf]at j;refine .inr ⟨j.look.lp,?_⟩;refine Ok.unwind (cA.2 ⟨by simp,dE⟩) (fun d hd=>by rw[aN]at hd;subst hd;exact nl _ _ _ _ j.cd (by intros;simp[Aw])) (E _ _) fun A W au=>?_
  have X:A.get (h0.next+1)=some (.cells [.bool true] 4):=As.at W (E _ _) (nl _ _ _ _ j.look.c4 (by intros;simp[Aw])) (by simp;omega);rw[f A true X];exact .ret ⟨rfl,(L _ _).sw W fun i hi=>by rw[aN]at hi;omega,W.hb (E _ _)⟩
 | false=>
  rw[hf]at j;refine .inl ⟨j.look.lp,?_⟩;simp only[Zx,dr];refine Ok.gK (nl _ _ _ _ j.look.c4 (by intros;simp[Aw])) rfl rfl (by show 0<1;decide) ?_;have ae:h0.next+1<(h4.put (h1.next+1) (Aw TT 66 14 0 tm .exhausted none h1.next)).next:=j.look.hb _ _ j.look.c4
  have Y:HB ((h4.put (h1.next+1) (Aw TT 66 14 0 tm .exhausted none h1.next)).put (h0.next+1) (.cells ([EV.bool false].set 0 (.bool false)) 4)):=(E _ _).put ae _;refine Ok.unwind (cA.2 ⟨by simp,dE⟩) (fun d hd=>by rw[aN]at hd;subst hd;rw[Af _];exact nl _ _ _ _ j.cd (by intros;simp[Aw])) Y fun A W au=>?_
  have X:A.get (h0.next+1)=some (.cells [.bool false] 4):=As.at W Y (Ae _ _ _) (by simp;omega);rw[f A false X];exact .ret ⟨rfl,((L _ _).Aq a_ ae _).sw W fun i hi=>by rw[aN]at hi;omega,W.hb Y⟩
end
end
section
def Cl(g:Gm)(z:Int):Int:=if z<0\/g.D*g.Z<=z then -1 else z/g.Z
theorem Hv {g:Gm}(s:Sm g)(z:Int)(J : -9223372036854775808<=z/\z<=9223372036854775807)(h:Ab):Ok (De K (gV g) (I z) h) fun v h'=>v=I (Cl g z)/\Ext h h':=by
 have:=s.d0;have:=s.d1;have:=s.z0;have:=s.z1;obtain⟨L,O⟩:=Nz (a:=g.D) (b:=g.Z) (A:=8) (B:=64);simp only[De,gV,Aa,I,Ac];have C:(h.new (.cells (gL g) 23)).get h.next=some (.cells (gL g) 23):=Ad _ _
 have hn:h.next<(h.new (.cells (gL g) 23)).next:=aT _
 have y:Ext h (h.new (.cells (gL g) 23)):=As.new _ _;generalize h.new (.cells (gL g) 23)=E at C hn y⊢;unfold Cl;by_cases h1:z<0
 ·simp only[h1,aB,Aa,Ac,Kl]
  exact .ret ⟨by rw[aK (.inl trivial)],y⟩
 ·simp only[h1,aA,Aa,Ac,Cz C rfl,Ak (show(gL g).length=6 from rfl)]
  rw[show EV.agg (gL g)=gV g from rfl,No s,Ar];simp only[I,Ac,Kl];by_cases h2:g.D*g.Z<=z
  ·simp only[h2,aB,Aa]
   exact .ret ⟨by rw[aK (.inr trivial)],y.Dn _⟩
  ·have f:(E.new (.cells (gL g) 23)).get h.next=some (.cells (gL g) 23):=by rw[Ba _ hn];exact C
   have j:Ext h (E.new (.cells (gL g) 23)):=y.Dn _;generalize E.new (.cells (gL g) 23)=hc at f j⊢;simp only[h2,aA,Aa,GF,Cx f rfl,gL,I];rw[qv a_ a_ a_];exact .ret ⟨by rw[aH (by rintro(x|x)<;>exact x)],j⟩
def upd(ps:Nat->List Int)(d:Nat)(l:List Int):Nat->List Int:=fun e=>if e=d then l else ps e
def mf(n:Nat)(c:Nat->Nat):Nat->Prop:=fun x=>∃d,d<n/\x=c d
def yi:Ds->Prop
 | .chan ..=>False
 | _=>True
theorem E3.uL{p:Nat}{q c:Nat->Nat}{g:Gm}(P:E3 h p ql n q c g ps){b:Nat}(f:h.get b=some o)(j:yi o):¬mf n c b:=by
 rintro⟨d,hd,rfl⟩;rw[P.chan d hd]at f;cases f;exact j
theorem E3.put{p:Nat}{q c:Nat->Nat}{g:Gm}(P:E3 h p ql n q c g ps){d:Nat}(hd:d<n)(l:List Int):E3 (h.put (c d) (.chan g.Z.toNat (l.map I))) p ql n q c g (upd ps d l):=by
 have ne:∀b o,h.get b=some o->yi o->(h.put (c d) (.chan g.Z.toNat (l.map I))).get b=some o:=fun b o j y=>by
  rw[Af _ (fun e=>P.uL j y ⟨d,hd,e.symm⟩)];exact j
 refine⟨P.pos,ne _ _ P.Ed trivial,ne _ _ P.row trivial,fun e he=>ne _ _ (P.que e he) trivial,fun e he=>?_,P.inj⟩;unfold upd;by_cases f:e=d
 ·subst f;rw[aK rfl];exact Ae _ _ _
 ·rw[aH f,Af _ (fun x=>f (P.inj _ _ he hd x.symm))];exact P.chan e he
theorem E3.kp{S:Nat->Prop}{p:Nat}{q c:Nat->Nat}{g:Gm}(P:E3 h p ql n q c g ps)(hb:HB h)(k:Kp S h h'):E3 h' p ql n q c g ps:=P.ext fun i o g=>k.at hb g
structure Sj(n:Nat)(g:Gm)(ps:Nat->List Int):Prop where
 nd:n=g.D.toNat
 sm:Sm g
 cap:∀d,d<n->(ps d).length<=g.Z.toNat
theorem Sj.bd{g:Gm}(z:Sj n g ps):n<=8/\g.Z<=64/\(n:Int)=g.D:=by
 have:=z.nd;have:=z.sm.d0;have:=z.sm.d1;have:=z.sm.z1;omega
theorem Sj.small{g:Gm}(z:Sj n g ps):yd n ps:=by
 obtain⟨a,b,_⟩:=z.bd;exact⟨a_,fun d hd=>by have:=z.cap d hd;omega⟩
theorem Sj.upd{g:Gm}(z:Sj n g ps){d:Nat}{l:List Int}(f:l.length<=g.Z.toNat):Sj n g (upd ps d l):=
 ⟨z.nd,z.sm,fun e he=>by unfold Ev.upd;split;exact f;exact z.cap e he⟩
def iX(g:Gm)(n:Nat)(ps:Nat->List Int)(z:Int):Int × (Nat->List Int):=
 if Cl g z<0 then(13,ps)else if hasB ps n z then(16,ps)else
  if(ps (Cl g z).toNat).length<g.Z.toNat then(0,upd ps (Cl g z).toNat (ps (Cl g z).toNat++[z]))else(17,ps)
theorem Z6 {g:Gm}(s:Sm g)(z:Int):Cl g z = -1\/(0<=Cl g z/\Cl g z<g.D/\Cl g z=z/g.Z/\0<=z/\z<g.D*g.Z):=by
 have:=s.z0;unfold Cl;split
 ·exact .inl rfl
 ·refine .inr ⟨Int.ediv_nonneg a_ a_,Int.ediv_lt_of_lt_mul a_ a_,rfl,a_,a_⟩
section
variable (H:Cf disp){p:Nat}{q c:Nat->Nat}{g:Gm}(P:E3 h p ql n q c g ps)(hb:HB h)(Z:Sj n g ps)(hK:5000<K)
include P hb Z hK
theorem vr(d:Int):Ok (O2 K (.ptr p 0) (I d) h) fun v h'=>As (mf n c) h h'/\HB h'/\∃x e f,v=.tuple [I x,I e]/\E3 h' p ql n q c g f/\Sj n g f /\
 ((d<0\/(n:Int)<=d)/\x=0/\e=13/\f=ps\/(0<=d/\d<n/\ps d.toNat = []/\x=0/\e=15/\f=ps)\/(0<=d/\d<n/\e=0/\∃r,ps d.toNat=x::r/\f=upd ps d.toNat r)):=by
 simp only[O2,I,Ac,Aa];by_cases h1:d<0
 ·simp only[h1,aB,Aa,Ac,Xa]
  exact .ret ⟨As.refl _,hb,0,13,ps,rfl,P,Z,.inl ⟨.inl trivial,rfl,rfl,rfl⟩⟩
 ·simp only[h1,aA,Aa,Ac,P.list,Xa]
  by_cases h2:(n:Int)<=d
  ·simp only[h2,aB,Aa]
   exact .ret ⟨As.refl _,hb,0,13,ps,rfl,P,Z,.inl ⟨.inr trivial,rfl,rfl,rfl⟩⟩
  ·obtain⟨d,rfl⟩:=bD (show 0<=d from a_)
   have hd:d<n:=a_
   simp only[h2,aA,Aa,JL,P.list];rw[P.rowAt.ix hd];simp only[P.nf hd];cases j:ps d with
   | nil=>
    rw[take_nil (P.que _ hd) (P.chan _ hd) j];simp only[Aa];exact .ret ⟨As.refl _,hb,0,15,ps,rfl,P,Z,.inr (.inl ⟨a_,a_,j,rfl,rfl,rfl⟩)⟩
   | cons x r=>
    rw[take_cons (P.que _ hd) (P.chan _ hd) j];simp only[Aa];have lt:=hb _ _ (P.chan _ hd);refine .ret ⟨(As.refl h).Aq (.inl ⟨_,hd,rfl⟩) lt _,hb.put lt _,x,0,upd ps d r,rfl,P.put hd r,Z.upd ?_,.inr (.inr ⟨a_,a_,rfl,r,j,rfl⟩)⟩;have:=Z.cap _ hd;rw[j]at this;simp at this;omega
include H
theorem QX {d:Nat}(hd:8<=d)(z:Int)(W : -9223372036854775808<=z/\z<=9223372036854775807):Ok (Ag TT disp K d false 41 [.ptr p 0,I z] h) fun v h'=>As (mf n c) h h'/\HB h'/\v=I (iX g n ps z).1/\E3 h' p ql n q c g (iX g n ps z).2/\Sj n g (iX g n ps z).2:=by
 obtain⟨e,rfl⟩:=fc d;obtain⟨b1,b2,b3⟩:=Z.bd;rw[Ar1 H a_];simp only[IW,Aa,P.ov];refine(Hv Z.sm z W h).Ao ?_;rintro _ h1 ⟨rfl,C⟩;have A:=C.hb hb;have E:=P.ext fun i o g=>C.at hb g
 simp only[I,Ac];unfold iX;rcases Z6 Z.sm z with J|⟨d0,d1,d2,d3,d4⟩
 ·rw[J]
  simp only[show(-1:Int)<0 from c_,aB,Aa,bN];exact .ret ⟨Ext.to C,A,rfl,E,Z⟩
 ·have L:¬Cl g z<0:=a_
  simp only[L,aA,Aa,ak];refine(BL (K:=K) H E A Z.cap a_ a_ (d:=e) a_ hK z).Ao ?_;rintro _ h2 ⟨rfl,U,y⟩;have j:=E.kp A U;have B:As (mf n c) h h2:=(Ext.to C).trans U.chg;cases X:hasB ps n z with
  | true=>
   simp only[Aa,bN];exact .ret ⟨B,y,rfl,j,Z⟩
  | false=>
   have f:(Cl g z).toNat<n:=a_
   simp only[Aa,IV,j.list];rw[show Cl g z=((Cl g z).toNat:Int) from a_,j.rowAt.ix f];simp only[j.nf f,bF];have lt:=y _ _ (j.chan _ f);by_cases O:(ps (Cl g z).toNat).length<g.Z.toNat
   ·rw[yg (j.que _ f) (j.chan _ f) z O,Ar]
    rw[aK O];refine .ret ⟨B.Aq (.inl ⟨_,f,rfl⟩) lt _,y.put lt _,rfl,j.put f _,Z.upd ?_⟩;rw[aF];simp;omega
   ·rw[Bpa (j.que _ f) (j.chan _ f) z a_,Ar]
    rw[aH O];exact .ret ⟨B,y,rfl,j,Z⟩
end
end
section
def Te(z:Int)(xs:List Int):List Int:=xs.filter fun x=>decide (¬x=z)
theorem Bkl(z x:Int)(r:List Int):Te z (x::r)=(if x=z then[]else[x])++Te z r:=by
 unfold Te;rw[fM];by_cases h:x=z<;>simp[h]
theorem Bbu(z:Int)(a b:List Int):Te z (a++b)=Te z a++Te z b:=eK ..
theorem QY(z:Int)(xs:List Int):(Te z xs).length<=xs.length:=eL _ _
section
variable (H:Cf disp)(hK:5000<K)
include H hK
theorem Beu(he:1<=e){q c:Nat}{z:Int}(y:h0.get q=some (.cells [.chan c] 199))(f:∃b,h0.get c=some (.chan cap b))(J:h0.get b3=some (.cells [I z] 3))(af:xs.length<=cap)(ah:cap<=4096)(gR:HB h0):∀(m i:Nat) (h:Ab),xs.length-i<m->i<=xs.length ->
 h.get c=some (.chan cap ((xs.drop i++Te z (xs.take i)).map I))->As (fun j=>j=c) h0 h->HB h ->
 Ok (Kj (Ag TT disp K e false) (Ag TT disp K e true) K m (.ptr q 0) (.func 183 [] [.ptr b3 0]) (I ((i:Int)-(Te z (xs.take i)).length)) (I xs.length) (I i) h) fun v h'=>v=I ((xs.length:Int)-(Te z xs).length)/\h'.get c=some (.chan cap ((Te z xs).map I))/\As (fun j=>j=c) h0 h'/\HB h':=by
 obtain⟨b0,f⟩:=f;have L:q≠c:=Bf y f (by simp);have aa:b3≠c:=Bf J f (by simp);have lc:=gR _ _ f;intro m;induction m with
 | zero=>intro i h hm;omega
 | succ m ih=>
  intro i h hm hi hc x hb;simp only[Kj,I,Ac,Aa];by_cases O:(i:Int)<xs.length
  ·have U:i<xs.length:=a_
   have hq:h.get q=some (.cells [.chan c] 199):=As.at x gR y L;have W:c<h.next:=aL lc x.next
   have ed:xs.drop i=xs[i]::xs.drop (i+1):=cm U;have E:Te z (xs.take (i+1))=Te z (xs.take i)++(if xs[i]=z then[]else[xs[i]]):=by
    rw[cy U,Bbu,Bkl];simp[Te]
   rw[ed,List.cons_append]at hc;have bl:=QY z (xs.take i);rw[bK]at bl;simp only[O,aB,Aa,IF];rw[take_cons hq hc rfl];simp only[Aa,I,Ac,aC,aA,IE];have X:As (fun j=>j=c) h0 (h.put c (.chan cap ((xs.drop (i+1)++Te z (xs.take i)).map I))):=x.Aq (.inl rfl) W _;have A:HB (h.put c (.chan cap ((xs.drop (i+1)++Te z (xs.take i)).map I))):=hb.put W _;have B:(h.put c (.chan cap ((xs.drop (i+1)++Te z (xs.take i)).map I))).get c=some (.chan cap ((xs.drop (i+1)++Te z (xs.take i)).map I)):=Ae _ _ _;have ad:(h.put c (.chan cap ((xs.drop (i+1)++Te z (xs.take i)).map I))).next=h.next:=rfl
   generalize h.put c (.chan cap ((xs.drop (i+1)++Te z (xs.take i)).map I))=h2 at X A B ad⊢;have g3:h2.get b3=some (.cells [I z] 3):=As.at X gR J aa;have C:T5 (Ag TT disp K e false) (Ag TT disp K e true) (.func 183 [] [.ptr b3 0]) [.int .i64 xs[i]] h2=some (.bool (decide (¬xs[i]=z)),h2):=by
    show Ag TT disp K e false 183 [.int .i64 xs[i],.ptr b3 0] h2=_;rw[Apk H he];simp only[HM,Cx g3 rfl,Aa,I,Ac]
   rw[C,Ar];by_cases Y:xs[i]=z
   ·rw[aK Y,cT]at E
    simp only[Y,aC,aA,Aa,Ac,Oh];rw[Cn (n:=(i:Int)-(Te z (xs.take i)).length+1),Cn (n:=(i:Int)+1)];have:=ih (i+1) h2 a_ a_ (by rw[E];exact B) X A;rw[E]at this;have e3:(i:Int)-(Te z (xs.take i)).length+1=((i+1:Nat):Int)-(Te z (xs.take i)).length:=a_
    rw[e3];exact this
   ·rw[aH Y]at E
    simp only[Y,aG,aB,Aa,Ac,ID];have ae:h2.get q=some (.cells [.chan c] 199):=As.at X gR y L;rw[show EV.int .i64 xs[i]=I xs[i]from rfl,yg ae B xs[i] (by rw[aF,av];omega),Ar];simp only[Oh,Ac];rw[Cn (n:=(i:Int)+1)];have:=ih (i+1) (h2.put c (.chan cap ((xs.drop (i+1)++Te z (xs.take i)++[xs[i]]).map I))) a_ a_ (by rw[E,<-bm];exact Ae _ _ _) (X.Aq (.inl rfl) a_ _) (A.put a_ _);rw[E,aF]at this;have e3:(i:Int)-(Te z (xs.take i)).length=((i+1:Nat):Int)-((Te z (xs.take i)).length+[xs[i]].length:Nat):=by simp;omega
    rw[e3];exact this
  ·have:i=xs.length:=a_
   subst this;rw[List.drop_length,dN,cM]at hc;rw[cM];simp only[O,aA,Aa,Ui];exact .ret ⟨rfl,hc,x,hb⟩
theorem Boc{p:Nat}{q c:Nat->Nat}{g:Gm}(P:E3 h p ql n q c g ps)(hb:HB h)(Z:Sj n g ps){d:Nat}(hd:4<=d)(z:Int)(hz : -9223372036854775808<=z/\z<=9223372036854775807):
 Ok (Ag TT disp K d false 142 [.ptr p 0,I z] h) fun v h'=>(∃e,v=I e)/\As (mf n c) h h'/\HB h'/\E3 h' p ql n q c g (if Cl g z<0 then ps else upd ps (Cl g z).toNat (Te z (ps (Cl g z).toNat)))/\Sj n g (if Cl g z<0 then ps else upd ps (Cl g z).toNat (Te z (ps (Cl g z).toNat))):=by
 obtain⟨e,rfl⟩:∃k,d=k+2:=⟨d-2,a_⟩;obtain⟨b1,b2,b3⟩:=Z.bd;rw[Ar9 H a_];simp only[IC,I,Aa];obtain⟨h1,e_,X,Y,n1⟩:=nW h (.cells [.int .i64 z] 3);rw[e_];have B:=X.hb hb;have P1:=P.ext fun i o g=>X.at hb g
 have lp:=B _ _ P1.Ed;have l3:=B _ _ Y;simp only[Aa,Au,Cp lp,Cp l3,P1.ov,Cx Y rfl];refine Ok.bE (Hv Z.sm z hz _) (fun _ _ p=>p.2) ?_;rintro _ _ h2 ⟨rfl,_⟩ _ W;have C:=W.hb B;have A:=P1.ext fun i o g=>W.at B g
 have J:=X.trans W;simp only[I,Ac];rcases Z6 Z.sm z with ad|⟨d0,d1,d2,d3,d4⟩
 ·rw[ad]
  simp only[show(-1:Int)<0 from c_,aB,Aa,Ac,bN,Rp];exact .ret ⟨⟨15,rfl⟩,Ext.to J,C,A,Z⟩
 ·have L:¬Cl g z<0:=a_
  simp only[L,aA,Aa,Ac,ak,A.list];generalize aw:Cl g z=dm at d0 d1 L;obtain⟨dn,rfl⟩:=bD d0;have f:dn<n:=a_
  rw[A.rowAt.ix f];simp only[A.nf f,bF];rw[Api H a_];simp only[IH,dr];rw[A.len f,Ar];have O:=A.chan _ f;have:=Beu (K:=K) H hK (e:=e) a_ (z:=z) (xs:=ps dn) (A.que _ f) ⟨_,O⟩ (W.at B Y) (Z.cap _ f) a_ C K 0 h2 (by have:=Z.cap _ f;omega) a_ (by rw[cZ,List.take_zero,show Te z [] = []from rfl,cT];exact O) (As.refl _) C;refine Ok.Ao (P:=fun v h'=>v=I (((ps dn).length:Int)-(Te z (ps dn)).length)/\h'.get (c dn)=some (.chan g.Z.toNat ((Te z (ps dn)).map I))/\As (fun j=>j=c dn) h2 h'/\HB h') this ?_;rintro _ h3 ⟨rfl,af,x3,U⟩;simp only[Ac,I];have ch:As (mf n c) h h3:=(Ext.to J).trans (x3.mono fun i hi=>⟨dn,f,hi⟩);have P3:E3 h3 p ql n q c g (upd ps dn (Te z (ps dn))):=by
   have ne:∀b o,h2.get b=some o->yi o->h3.get b=some o:=fun b o gb ho=>As.at x3 C gb fun e=>A.uL gb ho ⟨dn,f,e⟩
   refine⟨A.pos,ne _ _ A.Ed trivial,ne _ _ A.row trivial,fun e he=>ne _ _ (A.que e he) trivial,fun e he=>?_,A.inj⟩;unfold upd;by_cases E:e=dn
   ·subst E;rw[aK rfl];exact af
   ·rw[aH E];exact As.at x3 C (A.chan e he) fun y=>E (A.inj _ _ he f y)
  have Z3:Sj n g (upd ps dn (Te z (ps dn))):=Z.upd (bS (QY _ _) (Z.cap _ f));by_cases h0:((ps dn).length:Int)-(Te z (ps dn)).length=0
  ·simp only[h0,aB,Rp,Aa]
   exact .ret ⟨⟨15,rfl⟩,ch,U,P3,Z3⟩
  ·simp only[h0,aA,Rp,Aa,IB]
   exact .ret ⟨⟨0,rfl⟩,ch,U,P3,Z3⟩
end
theorem yj(ps:Nat->List Int)(b:Int):∀n,(Fl ps b n = -1/\∀d:Nat,d<n->(d:Int)=b)\/(0<=Fl ps b n/\Fl ps b n<n/\¬Fl ps b n=b/\∀d:Nat,d<n->(d:Int)=b\/(ps d).length<=(ps (Fl ps b n).toNat).length)
 | 0=>.inl ⟨rfl,fun d hd=>absurd hd (cJ _)⟩
 | n+1=>by
  have A:=yj ps b n;rw[yc];unfold ru;rcases A with⟨f,j⟩|⟨f,j,a3,a4⟩
  ·by_cases hb:(n:Int)=b
   ·rw[aH (fun x=>x.1 hb)]
    exact .inl ⟨f,fun d hd=>by rcases dY.1 hd with h|h;exact j d h;subst h;exact hb⟩
   ·rw[aK ⟨hb,.inl a_⟩]
    refine .inr ⟨a_,a_,hb,fun d hd=>?_⟩;rcases dY.1 hd with h|h
    ·exact .inl (j d h)
    ·subst h;exact .inr (by simp)
  ·by_cases hc:¬(n:Int)=b/\(Fl ps b n<0\/(ps (Fl ps b n).toNat).length<(ps n).length)
   ·rw[aK hc]
    refine .inr ⟨a_,a_,hc.1,fun d hd=>?_⟩;rcases dY.1 hd with h|h
    ·rcases a4 d h with y|y
     ·exact .inl y
     ·refine .inr ?_
      rcases hc.2 with z|z
      ·omega
      ·simp only[bF];omega
    ·subst h;exact .inr (by simp)
   ·rw[aH hc]
    refine .inr ⟨f,a_,a3,fun d hd=>?_⟩;rcases dY.1 hd with h|h
    ·exact a4 d h
    ·subst h
     by_cases hb:(d:Int)=b
     ·exact .inl hb
     ·exact .inr (by have:¬(ps (Fl ps b d).toNat).length<(ps d).length:=fun y=>hc ⟨hb,.inr y⟩;omega)
theorem QZ{a:Nat}:∀n,(∀d,d<n->d=a\/ps d = [])->jh ps n<=(ps a).length
 | 0,_=>by unfold jh;simp
 | n+1,h=>by
  rw[rv];rcases h n (aT _)with e|e
  ·subst e
   have:jh ps n=0:=by
    have:∀k,k<=n->jh ps k=0:=by
     intro k hk;induction k with
     | zero=>rfl
     | succ k f=>
      rw[rv,f a_];rcases h k a_ with e|e
      ·omega
      ·rw[e];rfl
    exact this n (aD _)
   omega
  ·rw[e];have:=QZ (a:=a) n fun d hd=>h d (Nat.lt_succ_of_lt hd);simp;omega
theorem Q'(h:Zv ps n≠0)(W:0<=Zv ps n):∃a b:Nat,Fl ps (-1) n=a/\Fl ps a n=b/\a<n/\b<n/\a≠b/\ps a≠[]/\ps b≠[]:=by
 have f:0<Zv ps n:=a_
 unfold Zv at f;rw[Int.lt_min]at f;obtain⟨p1,p2⟩:=f;rcases yj ps (-1) n with⟨O,C⟩|⟨O,C,_,a4⟩
 ·have:n=0:=by
   cases n with
   | zero=>rfl
   | succ n=>have:=C 0 a_;omega
  subst this;unfold jh at p1;simp at p1
 ·obtain⟨a,U⟩:=bD O
  rw[U]at C a4 p2;have E:a<n:=a_
  have e1:mc ps n a=(ps a).length:=by unfold mc;rw[aK a_];rfl
  rw[e1]at p2;have hex:∃d,d<n/\d≠a/\ps d≠[]:=by
   apply dK;intro J;have:=QZ (ps:=ps) (a:=a) n fun d hd=>by
    by_cases A:d=a
    ·exact .inl A
    ·refine .inr (dK fun j=>J ⟨d,hd,A,j⟩)
   omega
  obtain⟨d,hd,A,j⟩:=hex;have L:ps a≠[]:=fun e=>by
   rcases a4 d hd with y|y
   ·omega
   ·rw[bF,e]at y;exact j (bc.1 (by simpa using y))
  rcases yj ps a n with⟨b1,b2⟩|⟨b1,b2,b3,b4⟩
  ·have:=b2 d hd;omega
  ·obtain⟨b,B⟩:=bD b1
   rw[B]at b2 b3 b4;refine⟨a,b,U,B,E,a_,a_,L,fun e=>?_⟩;rcases b4 d hd with y|y
   ·omega
   ·rw[bF,e]at y;exact j (bc.1 (by simpa using y))
theorem Q_:0<=Zv ps n:=by
 unfold Zv;have:mc ps n (Fl ps (-1) n)<=jh ps n:=by
  unfold mc;split
  next h=>
   have:∀m d,d<m->(ps d).length<=jh ps m:=by
    intro m;induction m with
    | zero=>intro d hd;omega
    | succ m f=>
     intro d hd;rw[rv];rcases dY.1 hd with h|h
     ·have:=f d h;omega
     ·subst h;omega
   exact this n _ a_
  ·omega
 omega
section
variable{p:Nat}{q c:Nat->Nat}{g:Gm}(P:E3 h p ql n q c g ps)(hb:HB h)(Z:Sj n g ps)(hK:5000<K)
include P hb Z hK
theorem Boo:Ok (X0 K (.ptr p 0) h) fun v h'=>As (mf n c) h h'/\HB h'/\((Zv ps n=0/\v=.tuple [I 0,I 0,I 15]/\E3 h' p ql n q c g ps) \/
 ∃(a b:Nat) (x y:Int) (r s:List Int),¬Zv ps n=0/\Fl ps (-1) n=a/\Fl ps a n=b/\a<n/\b<n/\a≠b/\ps a=x::r/\ps b=y::s/\v=.tuple [I x,I y,I 0]/\E3 h' p ql n q c g (upd (upd ps a r) b s)/\Sj n g (upd (upd ps a r) b s)):=by
 obtain⟨b1,b2,b3⟩:=Z.bd;simp only[X0,dr];refine(BM P hb Z.small).Ao ?_;rintro _ h1 ⟨rfl,E⟩;have f:=E.hb hb;have J:=P.ext fun i o g=>E.at hb g
 simp only[I,Ac];by_cases L:Zv ps n=0
 ·simp only[L,aB,Aa]
  exact .ret ⟨Ext.to E,f,.inl ⟨trivial,rfl,J⟩⟩
 ·simp only[L,aA,Aa,JT]
  obtain⟨a,b,ha,B,O,U,C,W,gR⟩:=Q' L Q_;refine(ye J f a_ a_ (-1)).Ao ?_;rintro _ h2 ⟨rfl,X⟩;have j:=X.hb f;have P2:=J.ext fun i o g=>X.at f g
  rw[ha];refine(ye P2 j a_ a_ a).Ao ?_;rintro _ h3 ⟨rfl,Y⟩;have aa:=Y.hb j;have P3:=P2.ext fun i o g=>Y.at j g
  rw[B];refine(vr P3 aa Z hK a).Ao ?_;rintro _ h4 ⟨c4,ad,x,e,A,rfl,P4,Z4,hh⟩;have hx:e=0/\∃r,ps a=x::r/\A=upd ps a r:=by
   rcases hh with⟨y,_⟩|⟨_,_,y,_⟩|⟨_,_,y,z⟩
   ·omega
   ·rw[bF]at y;exact absurd y W
   ·rw[bF]at z;exact⟨y,z⟩
  obtain⟨rfl,r,af,rfl⟩:=hx;simp only[Aa];refine(vr P4 ad Z4 hK b).Ao ?_;rintro _ h5 ⟨c5,ag,y,e,A,rfl,P5,Z5,hh⟩;have eb:upd ps a r b=ps b:=by unfold upd;rw[aH (cX C)]
  have hy:e=0/\∃s,ps b=y::s/\A=upd (upd ps a r) b s:=by
   rcases hh with⟨w,_⟩|⟨_,_,w,_⟩|⟨_,_,w,z⟩
   ·omega
   ·rw[bF,eb]at w;exact absurd w gR
   ·rw[bF,eb]at z;exact⟨w,z⟩
  obtain⟨rfl,s,ah,rfl⟩:=hy;simp only[Aa,I,Ac,aC,aA,JS];refine .ret ⟨(Ext.to (E.trans (X.trans Y))).trans (c4.trans c5),ag,.inr ⟨a,b,x,y,r,s,not_false,rfl,B,O,U,C,af,ah,rfl,P5,Z5⟩⟩
end
end
def Jr(st:Nat):Int:=if st=4 then 32 else if st=3 then 30 else 0
theorem yk{z q:Nat}{size:Int}{Z:Zn}(f:Fj h z q size Z):D5 K (.ptr z 0) h=some (I Z.st,h):=by
 obtain⟨s,g,_⟩:=f.Ai;simp only[D5,Aa,Cx g rfl]
theorem Xe{z q:Nat}{size:Int}{Z:Zn}(j:Fj h z q size Z):Dx K (.ptr z 0) h=some (I (Jr Z.st),h):=by
 obtain⟨s,g,_⟩:=j.Ai;simp only[Dx,Aa,Cx g rfl,I,Ac];unfold Jr;by_cases h4:Z.st=4
 ·have:decide ((Z.st:Int)=4)=true:=by simp[h4]
  rw[this,aK h4];simp only[Aa]
 ·have a:decide ((Z.st:Int)=4)=false:=by simp;omega
  rw[a,aH h4];simp only[Aa,Ac];by_cases f:Z.st=3
  ·have:decide ((Z.st:Int)=3)=true:=by simp[f]
   rw[this,aK f];simp only[Aa]
  ·have b:decide ((Z.st:Int)=3)=false:=by simp;omega
   rw[b,aH f];simp only[Aa,Ac,Nq]
theorem Fj.ext{z q:Nat}{size:Int}{Z:Zn}(d:Fj h z q size Z)(g:∀i o,h.get i=some o->h'.get i=some o):Fj h' z q size Z:=by
 obtain⟨s,a,b⟩:=d.Ai;exact⟨⟨s,g _ _ a,b.frame fun f=>by rw[g _ _ (b.block f),b.block f]⟩,d.wf⟩
def Zn.app(Z:Zn)(size:Nat)(x:List EV):Zn:=⟨Z.l++[x],Z.safe,if Z.l.length+1=size then 2 else 1,Z.fin⟩
theorem Ayr{z q size:Nat}{Z:Zn}(zz:Fj h z q size Z)(hb:HB h)(a6:Z.st<2)(W:Z.l.length<=64)(Y:x.length=64):
 Ok (Dy K (.ptr z 0) (.agg x) h) fun v h'=>v=.tuple [I Z.l.length,I 0]/\(∃q',Fj h' z q' size (Z.app size x)/\h.next<=q')/\As (fun i=>i=z\/(0<Z.l.length/\i=q)) h h'/\HB h':=by
 obtain⟨s,g,r⟩:=zz.Ai;simp only[Dy,Aa];obtain⟨h1,e_,x1,g3,n1⟩:=nW h (.cells x 32);rw[e_];have j:=x1.hb hb;have z1:Fj h1 z q size Z:=zz.ext fun i o g=>x1.at hb g
 have g1:=x1.at hb g;have r1:Ce h1 s q 32 64 Z.l.length Z.l.flatten:=r.frame fun W=>by rw[x1.at hb (r.block W),r.block W]
 rw[Xe z1,Ar];have hf:Jr Z.st=0:=by unfold Jr;rw[aH a_,aH a_]
 rw[hf];have h2:¬(Z.st:Int)=2:=a_
 simp only[Ac,I,aC,aA,Aa,H7,Cx g1 rfl,h2,M0];have lz:=j _ _ g1;have l3:=j _ _ g3;simp only[Aa,Au,Cp lz,Cp l3,Cx g1 rfl,Cz g3 rfl,Ak Y];rw[Vt (z:=List.replicate 64 (.int .u8 0)) rfl (by simp) (by exact Y),Ar];obtain⟨f,e_,x2,gx,n2⟩:=nW h1 (.cells (EV.cells (.agg x)) 32);rw[e_];have C:=x2.hb j;have g2:=x2.at j g1;have r2:Ce f.lift s q 32 64 Z.l.length Z.l.flatten:=(r1.frame (h':=f) fun W=>by rw[x2.at j (r1.block W),r1.block W]).frame fun _=>Bx _ _
 obtain⟨h3,e3,r3,n3,c3⟩:=Zd (x:=.slice h1.next 0 1 1 false) (n:=1) r2 rfl a_ a_ a_ (Xb (b:=h1.next) (by rw[Bx];exact gx) Y) (by rw[Y]);refine Ok.bC (S:=fun i=>0<Z.l.length/\i=q) (P:=fun v h'=>v=.slice f.lift.next 0 (Z.l.length+1) (Z.l.length+1) true/\h'=h3) ⟨_,_,e3,rfl,rfl⟩ (fun _ _ p=>by rw[p.2];exact c3) ?_;rintro _ _ h4 s' ⟨rfl,rfl⟩ sm x4 aq;have ae:=x4.hb C;rw[qu]at r3 n3;rw[qu];have au:¬(0<Z.l.length/\z=q):=fun y=>by
  have:=r1.block y.1;exact Bf g1 this (by simp) y.2
 have g4:h4.get z=some (.cells [s,I size,I Z.safe,I Z.st,.bool Z.fin] 176):=As.at x4 C g2 au;have r4:Ce h4 (.slice f.next 0 (Z.l.length+1) (Z.l.length+1) true) f.next 32 64 (Z.l.length+1) (Z.l.flatten++x):=r3.frame fun _=>sm.get _
 have A:z<h4.next:=ae _ _ g4
 try simp only[Aa]
 rw[J1 (by rcases aq with rfl|⟨w,rfl,_⟩<;>kernel_rfl)];refine Ok.gK g4 rfl rfl (by show 0<5;decide) ?_;refine Ok.gK (Ae _ _ _) rfl rfl (by show 3<5;decide) ?_;simp only[List.set,Aa];have E:f.next≠z:=by have:=C _ _ g2;omega
 have J:z<((h4.put z (.cells [EV.slice f.next 0 (Z.l.length+1) (Z.l.length+1) true,I size,I Z.safe,I Z.st,.bool Z.fin] 176)).put z (.cells [EV.slice f.next 0 (Z.l.length+1) (Z.l.length+1) true,I size,I Z.safe,.int .i64 1,.bool Z.fin] 176)).next:=A
 have hq:h.next<=f.next:=a_
 have r5:∀o1 B,Ce ((h4.put z o1).put z B) (.slice f.next 0 (Z.l.length+1) (Z.l.length+1) true) f.next 32 64 (Z.l.length+1) (Z.l.flatten++x):=fun o1 B=>r4.frame fun _=>by rw[Af _ (cX E),Af _ (cX E)]
 have ch:∀o1 B,As (fun i=>i=z\/(0<Z.l.length/\i=q)) h ((h4.put z o1).put z B):=fun o1 B=>((((Ext.to (x1.trans x2)).trans (x4.mono fun i hi=>.inr hi)).Aq (.inl (.inl rfl)) A _).Aq (.inl (.inl rfl)) A _)
 have aw:∀o1 B,HB ((h4.put z o1).put z B):=fun o1 B=>(ae.put A _).put A _
 have gz:((h4.put z (.cells [EV.slice f.next 0 (Z.l.length+1) (Z.l.length+1) true,I size,I Z.safe,I Z.st,.bool Z.fin] 176)).put z (.cells [EV.slice f.next 0 (Z.l.length+1) (Z.l.length+1) true,I size,I Z.safe,.int .i64 1,.bool Z.fin] 176)).get z=some (.cells [EV.slice f.next 0 (Z.l.length+1) (Z.l.length+1) true,I size,I Z.safe,.int .i64 1,.bool Z.fin] 176):=Ae _ _ _;have L:=r5 (.cells [EV.slice f.next 0 (Z.l.length+1) (Z.l.length+1) true,I size,I Z.safe,I Z.st,.bool Z.fin] 176) (.cells [EV.slice f.next 0 (Z.l.length+1) (Z.l.length+1) true,I size,I Z.safe,.int .i64 1,.bool Z.fin] 176);have O:=ch (.cells [EV.slice f.next 0 (Z.l.length+1) (Z.l.length+1) true,I size,I Z.safe,I Z.st,.bool Z.fin] 176) (.cells [EV.slice f.next 0 (Z.l.length+1) (Z.l.length+1) true,I size,I Z.safe,.int .i64 1,.bool Z.fin] 176);have U:=aw (.cells [EV.slice f.next 0 (Z.l.length+1) (Z.l.length+1) true,I size,I Z.safe,I Z.st,.bool Z.fin] 176) (.cells [EV.slice f.next 0 (Z.l.length+1) (Z.l.length+1) true,I size,I Z.safe,.int .i64 1,.bool Z.fin] 176);generalize (h4.put z (.cells [EV.slice f.next 0 (Z.l.length+1) (Z.l.length+1) true,I size,I Z.safe,I Z.st,.bool Z.fin] 176)).put z (.cells [EV.slice f.next 0 (Z.l.length+1) (Z.l.length+1) true,I size,I Z.safe,.int .i64 1,.bool Z.fin] 176)=h5 at gz L O U J⊢;simp only[Cx gz rfl,Aa,I,Ac];have fin:∀(st:Nat) (X:Ab),st=(Z.app size x).st->X.get z=some (.cells [EV.slice f.next 0 (Z.l.length+1) (Z.l.length+1) true,I size,I Z.safe,I st,.bool Z.fin] 176)->Ce X (.slice f.next 0 (Z.l.length+1) (Z.l.length+1) true) f.next 32 64 (Z.l.length+1) (Z.l.flatten++x)->As (fun i=>i=z\/(0<Z.l.length/\i=q)) h X->HB X ->
  Ok (H3 K (.ptr z 0) X) fun v h'=>v=.tuple [I Z.l.length,I 0]/\(∃q',Fj h' z q' size (Z.app size x)/\h.next<=q')/\As (fun i=>i=z\/(0<Z.l.length/\i=q)) h h'/\HB h':=by
  rintro st X rfl g6 r6 c6 ax;simp only[H3,Aa,Cx g6 rfl,I,Ac];rw[Cn,show((Z.l.length+1:Nat):Int)-1=(Z.l.length:Int) from a_];refine .ret ⟨rfl,⟨f.next,⟨⟨_,g6,?_⟩,fun y hy=>by
   rcases bH.1 hy with hy|hy
   ·exact zz.wf y hy
   ·rw[aN.1 hy];exact Y⟩,hq⟩,c6,ax⟩
  have e1:(Z.app size x).l.length=Z.l.length+1:=by simp[Zn.app]
  have e2:(Z.app size x).l.flatten=Z.l.flatten++x:=by simp[Zn.app]
  rw[e1,e2];exact r6
 by_cases hs:Z.l.length+1=size
 ·have:((Z.l.length+1:Nat):Int)=(size:Int):=a_
  simp only[this,aB,Aa];refine Ok.gK gz rfl rfl (by show 3<5;decide) ?_;refine fin 2 _ (by simp[Zn.app,hs]) (Ae _ _ _) (L.frame fun _=>Af _ (cX E)) (O.Aq (.inl (.inl rfl)) J _) (U.put J _)
 ·have:¬((Z.l.length+1:Nat):Int)=(size:Int):=a_
  simp only[this,aA,Aa];exact fin 1 _ (by simp[Zn.app,hs]) gz L O U
theorem Aze{z q:Nat}{size:Int}{Z:Zn}(A:Fj h z q size Z)(hb:HB h)(B:2<=Z.st)(h4:Z.st<=4)(x:List EV):
 Ok (Dy K (.ptr z 0) (.agg x) h) fun v h'=>v=.tuple [I 0,I (if Z.st=2 then 17 else Jr Z.st)]/\Ext h h':=by
 simp only[Dy,Aa];obtain⟨h1,C,f,_,_⟩:=nW h (.cells x 32);rw[C];have z1:Fj h1 z q size Z:=A.ext fun i o g=>f.at hb g
 rw[Xe z1,Ar];obtain⟨s,g,_⟩:=z1.Ai;by_cases h2:Z.st=2
 ·have j:Jr Z.st=0:=by unfold Jr;rw[aH a_,aH a_]
  have y:(Z.st:Int)=2:=a_
  rw[j];simp only[Ac,I,aC,aA,Aa,H7,Cx g rfl,y,aB,h2,bN];exact .ret ⟨rfl,f⟩
 ·have j:¬Jr Z.st=0:=by
   unfold Jr;split
   ·decide
   ·split
    ·decide
    ·omega
  simp only[Ac,I,j,aG,aB,Aa,h2,ak];exact .ret ⟨rfl,f⟩
theorem Fi{l:List EV}(f:h.get i=some (.cells l t))(hs:TT.size t=some n)(j:TT.agg t=some true)(y:l.length=n):Iq TT [.c (.ptr i 0) t,.v v] h=some (.tuple [.agg l,v],h):=by
 have A:I6 h i 0 n=some l:=by
  unfold I6;rw[f];simp only;rw[<-mK];exact Ak y
 unfold Iq;simp only[jV,hs,A,j]
theorem kg:TT.size 32=some 64/\TT.agg 32=some true:=⟨by kernel_rfl,by kernel_rfl⟩
def Sf:List EV:=List.replicate 64 (.int .u8 0)
theorem Kg:Sf.length=64:=by simp[Sf]
theorem Bit:∀(l:List (List EV)) (j:Nat),(∀x∈l,x.length=64)->j<l.length->∃x,l[j]? = some x/\x.length=64/\Ly l.flatten (j*64) 64=some x:=by
 intro l;induction l with
 | nil=>intro j _ hj;cases hj
 | cons y l B=>
  intro j hw hj;have J:=hw y (aQ ..);cases j with
  | zero=>
   refine⟨y,rfl,J,?_⟩;rw[b9,Eg (by simp[J]),fT,cZ,dL a_,bQ a_]
  | succ j=>
   obtain⟨x,e1,e2,e3⟩:=B j (fun x f=>hw x (aP _ f)) (by simpa using hj);refine⟨x,by simpa using e1,e2,?_⟩;have L:j*64+64<=l.flatten.length:=by
    rcases dC l.flatten.length (j*64+64)with C|E
    ·rw[mK]at e3
     exfalso;have:(l.flatten.drop (j*64)).length<64:=by rw[av];omega
     revert e3;have hlen:l.flatten.length=l.length*64:=by
      clear B hj e1 C this;have A:∀x∈l,x.length=64:=fun x f=>hw x (aP _ f)
      clear hw;induction l with
      | nil=>rfl
      | cons a l B=>rw[b9,aF,B fun x f=>A x (aP _ f),A a (aQ ..),bP];omega
     have:j+1<=l.length:=by simp at hj;omega
     omega
    ·exact E
   rw[Eg L]at e3;rw[b9,Eg (by rw[aF];omega),show(j+1)*64=y.length+j*64 from a_,List.drop_append,<-e3,cr a_,dN];simp
def Ym(Z:Zn)(off:Int):List EV × Int:=if Z.st=4 then(Sf,32)else if 0<=off/\off<Z.l.length then((Z.l[off.toNat]?).getD Sf,0)else(Sf,31)
theorem Bea {Z:Zn}(wf:∀x∈Z.l,x.length=64)(off:Int):(Ym Z off).1.length=64:=by
 unfold Ym;split
 ·exact Kg
 ·split
  next hc=>
   have:off.toNat<Z.l.length:=a_
   rw[aE this];exact wf _ (bA _)
  ·exact Kg
theorem A3o{z q:Nat}{size:Int}{Z:Zn}(J:Fj h z q size Z)(hb:HB h)(off:Int):
 Ok (Hj K (.ptr z 0) (I off) h) fun v h'=>v=.tuple [.agg (Ym Z off).1,I (Ym Z off).2]/\Ext h h':=by
 simp only[Hj,Aa];have y:Ext h ((h.new (.cells (List.replicate 64 (.int .u8 0)) 32)).new (.cells (List.replicate 64 (.int .u8 0)) 32)):=(As.new _ _).Dn _;have A:((h.new (.cells (List.replicate 64 (.int .u8 0)) 32)).new (.cells (List.replicate 64 (.int .u8 0)) 32)).get h.next=some (.cells Sf 32):=by
  rw[Ba _ (aT _)];exact Ad _ _
 have f:((h.new (.cells (List.replicate 64 (.int .u8 0)) 32)).new (.cells (List.replicate 64 (.int .u8 0)) 32)).get (h.new (.cells (List.replicate 64 (.int .u8 0)) 32)).next=some (.cells Sf 32):=Ad _ _
 generalize O:(h.new (.cells (List.replicate 64 (.int .u8 0)) 32)).next=W at f⊢
 generalize (h.new (.cells (List.replicate 64 (.int .u8 0)) 32)).new (.cells (List.replicate 64 (.int .u8 0)) 32)=h1 at y A f⊢;have B:=y.hb hb;have z1:Fj h1 z q size Z:=J.ext fun i o g=>y.at hb g
 obtain⟨s,g,r⟩:=z1.Ai;have U:=B _ _ A;have fin:∀(l:List EV) (e:Int),l.length=64->(l,e)=Ym Z off->Ok (f_ 64 (.ptr h.next 0) (.agg l) h1 fun h=>Iq TT [.c (.ptr h.next 0) 32,.v (I e)] h) (fun v h'=>True)->True:=fun _ _ _ _ _=>trivial
 clear fin;have fin:∀(l:List EV) (e:Int) (kk:Ab->R),(∀h',kk h'=Iq TT [.c (.ptr h.next 0) 32,.v (I e)] h')->l.length=64->(l,e)=Ym Z off->Ok (f_ 64 (.ptr h.next 0) (.agg l) h1 kk) fun v h'=>v=.tuple [.agg (Ym Z off).1,I (Ym Z off).2]/\Ext h h':=by
  intro l e kk C E he;refine Ok.st l A rfl (by rw[show EV.cells (.agg l)=l from rfl,Bb,E]) (Bn (by rw[Kg];exact E.symm)) ?_;rw[C,Fi (Ae _ _ _) kg.1 kg.2 E,<-he];exact .ret ⟨rfl,y.Aq (.inr (aD _)) U _⟩
 simp only[Cx g rfl,Aa,I,Ac,Cz f rfl,Ak Kg];by_cases h4:Z.st=4
 ·rw[show decide ((Z.st:Int)=4)=true by simp[h4]]
  simp only[Aa];exact fin Sf 32 _ (fun _=>rfl) Kg (by unfold Ym;rw[aK h4])
 ·rw[show decide ((Z.st:Int)=4)=false by simp;omega]
  simp only[Aa];by_cases h0:off<0
  ·simp only[h0,aB,Aa,I8,Cz f rfl,Ak Kg]
   exact fin Sf 31 _ (fun _=>rfl) Kg (by unfold Ym;rw[aH h4,aH a_])
  ·simp only[h0,aA,Aa,r.Gi,Ac,I8]
   by_cases L:(Z.l.length:Int)<=off
   ·simp only[L,aB,Aa,Cz f rfl,Ak Kg]
    exact fin Sf 31 _ (fun _=>rfl) Kg (by unfold Ym;rw[aH h4,aH a_])
   ·simp only[L,aA,Aa,Oq,Cx g rfl]
    have hj:off.toNat<Z.l.length:=a_
    obtain⟨j,rfl⟩:∃j:Nat,off=j:=⟨off.toNat,a_⟩;rw[show(j:Int).toNat=j from rfl]at hj;obtain⟨x,f1,f2,f3⟩:=Bit Z.l j J.wf hj;rw[r.ix hj];simp only[Cz (r.block a_) rfl,f3,Aa];refine fin x 0 _ (fun _=>rfl) f2 ?_;unfold Ym;rw[aH h4,aK a_,show(j:Int).toNat=j from rfl,f1];rfl
theorem Fj.put{z q:Nat}{size:Int}{Z:Zn}(f:Fj h z q size Z){s:EV}(g:h.get z=some (.cells [s,I size,I Z.safe,I Z.st,.bool Z.fin] 176))(safe st:Nat)(fin:Bool):
 Fj (h.put z (.cells [s,I size,I safe,I st,.bool fin] 176)) z q size ⟨Z.l,safe,st,fin⟩:=by
 obtain⟨s',j,r⟩:=f.Ai;rw[g]at j;have:s=s':=by
  have:=fZ j;injection this with a _;exact(List.cons.inj a).1
 subst this;refine⟨⟨s,Ae _ _ _,r.frame fun y=>Af _ ?_⟩,f.wf⟩;exact Bf g (r.block y) (by simp)
def Zn.flush(Z:Zn):Zn:={ Z with safe:=Z.l.length }
theorem A07{z q:Nat}{size:Int}{Z:Zn}(f:Fj h z q size Z)(hb:HB h):
 Ok (Gz K (.ptr z 0) h) fun v h'=>Fj h' z q size Z.flush/\As (fun i=>i=z) h h'/\HB h':=by
 obtain⟨s,g,r⟩:=f.Ai;have j:=hb _ _ g;simp only[Gz,Aa,Cx g rfl,r.Gi];refine Ok.gK g rfl rfl (by show 2<5;decide) ?_;refine .ret ⟨?_,(As.refl (S:=fun i=>i=z) h).Aq (.inl rfl) j _,hb.put j _⟩;exact f.put g Z.l.length Z.st Z.fin
def Zn.finish(Z:Zn):Zn:={ Z with st:=2,fin:=true }
theorem Azp{z q:Nat}{size:Int}{Z:Zn}(f:Fj h z q size Z)(hb:HB h):
 Ok (Gp K (.ptr z 0) h) fun v h'=>v=I (Jr Z.st)/\Fj h' z q size (if Jr Z.st=0 then Z.finish else Z)/\As (fun i=>i=z) h h'/\HB h':=by
 obtain⟨s,g,r⟩:=f.Ai;have j:=hb _ _ g;simp only[Gp,Xe f,Aa,I,Ac];by_cases y:Jr Z.st=0
 ·simp only[y,aC,aA,Aa,bN,Nd]
  refine Ok.gK g rfl rfl (by show 3<5;decide) ?_;refine Ok.gK (Ae _ _ _) rfl rfl (by show 4<5;decide) ?_;refine .ret ⟨rfl,?_,((As.refl (S:=fun i=>i=z) h).Aq (.inl rfl) j _).Aq (.inl rfl) j _,(hb.put j _).put j _⟩;exact(f.put g Z.safe 2 Z.fin).put (Ae _ _ _) Z.safe 2 true
 ·simp only[y,aG,aB,Aa,ak]
  exact .ret ⟨rfl,f,As.refl _,hb⟩
def Zn.fail(Z:Zn)(st:Nat):Zn:=if st=4\/st=3/\¬Z.st=4 then { Z with st:=st }else Z
theorem A35{z q:Nat}{size:Int}{Z:Zn}(f:Fj h z q size Z)(hb:HB h)(st:Nat):
 Ok (Hi K (.ptr z 0) (I st) h) fun v h'=>Fj h' z q size (Z.fail st)/\As (fun i=>i=z) h h'/\HB h':=by
 obtain⟨s,g,r⟩:=f.Ai;have j:=hb _ _ g;have yes:(st=4\/st=3/\¬Z.st=4)->Ok (f_ 1 (.ptr z 3) (I st) h fun h=>some (.tuple [],h)) fun v h'=>Fj h' z q size (Z.fail st)/\As (fun i=>i=z) h h'/\HB h':=by
  intro hc;refine Ok.gK g rfl rfl (by show 3<5;decide) ?_;refine .ret ⟨?_,(As.refl (S:=fun i=>i=z) h).Aq (.inl rfl) j _,hb.put j _⟩;unfold Zn.fail;rw[aK hc];exact f.put g Z.safe st Z.fin
 have no:¬(st=4\/st=3/\¬Z.st=4)->Ok (some (.tuple [],h)) fun v h'=>Fj h' z q size (Z.fail st)/\As (fun i=>i=z) h h'/\HB h':=by
  intro hc;refine .ret ⟨?_,As.refl _,hb⟩;unfold Zn.fail;rw[aH hc];exact f
 simp only[Hi,I,Ac,Aa];by_cases a:st=4
 ·rw[show decide ((st:Int)=4)=true by simp[a]]
  simp only[Aa,Ac,F6,Ek,Eh];exact yes (.inl a)
 ·rw[show decide ((st:Int)=4)=false by simp;omega]
  simp only[Aa,Ac];by_cases b:st=3
  ·rw[show decide ((st:Int)=3)=true by simp[b]]
   simp only[Aa,Ac,F6,Cx g rfl,I];by_cases c:Z.st=4
   ·rw[show decide (¬(Z.st:Int)=4)=false by simp[c]]
    simp only[Aa,Ac,Ek,Eh];exact no a_
   ·rw[show decide (¬(Z.st:Int)=4)=true by simp;omega]
    simp only[Aa,Ac,Ek,Eh];exact yes (.inr ⟨b,c⟩)
  ·rw[show decide ((st:Int)=3)=false by simp;omega]
   simp only[Aa,Ac,F6,Ek,Eh];exact no a_
theorem Tm{b sz:Nat}{x:EV}{new:List EV}(j:lenOf x=some n)(f:n<=65536)(hc:Lm h sz n x=some new)(hs:new.length=n*sz)(q:Nat):
 Ok (D9 e sz (.slice b 0 0 0 false) x h) fun v h'=>∃q',Ce h' v q' e sz n new/\Ext h h'/\(0<n->h.next<=q'):=by
 rcases dW n with rfl|A
 ·have:new = []:=bc.1 a_
  subst this;refine⟨.slice b 0 0 0 false,h,?_,q,.empty _ _ _ _ _,As.refl _,fun y=>a_⟩;unfold D9;simp only[j,G1];rfl
 ·obtain⟨h',e1,r,B,c⟩:=Zd (s:=.slice b 0 0 0 false) (q:=q) (e:=e) (.empty h b q e sz) j A f (cF _) hc hs
  refine⟨_,h',e1,h.next,?_,c.mono fun i hi=>absurd hi.1 (bX _),fun _=>aD _⟩;rw[dN]at r;simpa only[bJ]using r
section
def Bi(F:Nat->Prop)(h h':Ab):Nat->Prop:=fun i=>F i\/(h.next<=i/\i<h'.next)
theorem As.grow(a:As F h h1)(b:As (Bi F h h1) h1 h2):As F h h2:=
 a.then b fun i hi f=>by
  rcases hi with hi|hi
  ·exact hi
  ·omega
theorem Bi.trans(a:h.next<=h1.next)(b:h1.next<=h2.next)(g:Bi (Bi F h h1) h1 h2 i):Bi F h h2 i:=by
 rcases g with(g|g)|g
 ·exact .inl g
 ·exact .inr ⟨g.1,a_⟩
 ·exact .inr ⟨a_,g.2⟩
theorem Bi.le(b:h1.next<=h2.next)(g:Bi F h h1 i):Bi F h h2 i:=by
 rcases g with g|g
 ·exact .inl g
 ·exact .inr ⟨g.1,a_⟩
structure Dv where
 n:Nat
 size:Nat
 op:Int
 cnt:Int
 down:Bool
 zs:Nat->Zn
def Be(l:List Nat):List EV:=l.map fun(b:Nat)=>EV.int .u8 (Int.ofNat b)
def U8(x:List EV):Prop:=∃l:List Nat,(∀b∈l,b<256)/\x=Be l
theorem U8.zs:U8 Sf:=⟨List.replicate 64 0,fun b hb=>by rw[bY hb];decide,by unfold Be Sf;rw[eh];rfl⟩
structure Zn.Wf(Z:Zn)(size:Nat):Prop where
 u8:∀x∈Z.l,U8 x
 st:Z.st<=4
 safe:Z.safe<=Z.l.length
 len:Z.l.length<=size
 room:Z.st<2->Z.l.length<size
structure Dv.Wf(D:Dv):Prop where
 size:D.size<=64
 n:D.n<=512
 zs:∀i,i<D.n->(D.zs i).Wf D.size
def A01(V zl n:Nat)(z q:Nat->Nat)(zs:Nat->Zn):Nat->Prop:=fun i=>i=V\/i=zl\/∃d,d<n/\(i=z d\/((zs d).l≠[]/\i=q d))
structure Hg(h:Ab)(V:Nat)(D:Dv)(F:Nat->Prop):Prop where
 wf:D.Wf
 lt:∀i,F i->i<h.next
 Mh:∃zl z q,L2 h V zl D.n z q D.size D.op D.cnt D.down D.zs/\∀i,A01 V zl D.n z q D.zs i->F i
theorem Hg.mono{D:Dv}(d:Hg h V D F)(s:∀i,F i->G i)(l:∀i,G i->i<h.next):Hg h V D G:=by
 obtain⟨zl,z,q,a,b⟩:=d.Mh;exact⟨d.wf,l,zl,z,q,a,fun i hi=>s i (b i hi)⟩
theorem Bi.lt(l:∀i,F i->i<h.next)(n:h.next<=h'.next):∀i,Bi F h h' i->i<h'.next:=fun i hi=>by
 rcases hi with hi|hi
 ·have:=l i hi;omega
 ·exact hi.2
theorem Hg.grow{D:Dv}(d:Hg h' V D F)(l:∀i,F i->i<h.next)(n:h.next<=h'.next):Hg h' V D (Bi F h h'):=
 d.mono (fun _=>.inl) (Bi.lt l n)
theorem ow {l:List (List EV)}:l≠[]↔0<l.length:=by rw[List.length_pos_iff]
theorem L2.frame{z q:Nat->Nat}{size op:Int}{Zs:Nat->Zn}(d:L2 h V zl n z q size op cnt down Zs)(e:∀i,A01 V zl n z q Zs i->h'.get i=h.get i):L2 h' V zl n z q size op cnt down Zs:=by
 refine⟨d.pos,by rw[e _ (.inl rfl)];exact d.dev,by rw[e _ (.inr (.inl rfl))];exact d.row,fun i hi=>?_,d.A5b,d.A8p⟩;obtain⟨s,a,b⟩:=(d.Ai i hi).Ai;exact⟨⟨s,by rw[e _ (.inr (.inr ⟨i,hi,.inl rfl⟩))];exact a,b.frame fun f=>e _ (.inr (.inr ⟨i,hi,.inr ⟨ow.2 f,rfl⟩⟩))⟩,(d.Ai i hi).wf⟩
theorem Hg.frame{D:Dv}(d:Hg h V D F)(n:h.next<=h'.next)(e:∀i,F i->h'.get i=h.get i):Hg h' V D F:=by
 obtain⟨zl,z,q,a,b⟩:=d.Mh;exact⟨d.wf,fun i hi=>aL (d.lt i hi) n,zl,z,q,a.frame fun i hi=>e i (b i hi),b⟩
theorem Hg.chg{D:Dv}{S:Nat->Prop}(d:Hg h V D F)(c:As S h h')(n:∀i,F i->¬S i):Hg h' V D F:=
 d.frame c.next fun i hi=>c.get i (d.lt i hi) (n i hi)
theorem Hg.ext{D:Dv}(d:Hg h V D F)(c:Ext h h'):Hg h' V D F:=d.chg c fun _ _=>id
theorem L2.yl{z q:Nat->Nat}{size op:Int}{Zs:Nat->Zn}(d:L2 h V zl n z q size op cnt down Zs)(j:Int)(f:Bool):
 L2 (h.put V (.cells [.slice zl 0 n n true,I size,I op,I j,.bool f] 131)) V zl n z q size op j f Zs:=by
 refine⟨d.pos,Ae _ _ _,?_,fun i hi=>?_,d.A5b,d.A8p⟩
 ·rw[Af _ (Bf d.dev d.row (by simp))];exact d.row
 ·obtain⟨s,a,b⟩:=(d.Ai i hi).Ai
  refine⟨⟨s,?_,b.frame fun y=>Af _ (Bf d.dev (b.block y) (by simp))⟩,(d.Ai i hi).wf⟩;rw[Af _ (Bf d.dev a (by simp))];exact a
def Ke(Zs:Nat->Zn)(d:Nat)(Z:Zn):Nat->Zn:=fun e=>if e=d then Z else Zs e
def lh(q:Nat->Nat)(d x:Nat):Nat->Nat:=fun e=>if e=d then x else q e
theorem L2.Ri{z q:Nat->Nat}{size op:Int}{Zs:Nat->Zn}(d:L2 h V zl n z q size op cnt down Zs)(hb:HB h)(hi:i<n){Z:Zn}
 (X:Fj h' (z i) q' size Z) (c:As (fun j=>j=z i\/((Zs i).l≠[]/\j=q i)) h h') (hq:Z.l≠[]->h.next<=q'\/(q'=q i/\(Zs i).l≠[])) :
 L2 h' V zl n z (lh q i q') size op cnt down (Ke Zs i Z):=by
 obtain⟨si,U,bi⟩:=(d.Ai i hi).Ai;have Y:∀x o,h.get x=some o->(∀l,o≠.vec l 32 64)->¬((Zs i).l≠[]/\x=q i):=by
  rintro x o J C ⟨E,rfl⟩;rw[bi.block (ow.1 E)]at J;cases J;exact C _ rfl
 have A:∀x o,h.get x=some o->x≠z i->(∀l,o≠.vec l 32 64)->h'.get x=some o:=fun x o J hn C=>by
  refine c.at hb J ?_;rintro(y|y)
  ·exact hn y
  ·exact Y x o J C y
 refine⟨d.pos,A _ _ d.dev (Bf d.dev U (by simp)) (by intros;simp),A _ _ d.row (Bf d.row U (by simp)) (by intros;simp),fun j hj=>?_,d.A5b,?_⟩
 ·by_cases f:j=i
  ·subst f;simp only[lh,Ke,bN];exact X
  ·simp only[lh,Ke,f,ak]
   obtain⟨s,a,b⟩:=(d.Ai j hj).Ai;refine⟨⟨s,A _ _ a (fun e=>f (d.A5b j i hj hi e)) (by intros;simp),b.frame fun E=>?_⟩,(d.Ai j hj).wf⟩;have W:=b.block E;refine c.get _ (hb _ _ W) ?_;rintro(y|⟨L,O⟩)
   ·exact Bf W U (by simp) y
   ·exact f (d.A8p j i hj hi (ow.2 E) L O)
 ·intro j k hj hk
  have lq:∀j,j<n->(Zs j).l≠[]->q j<h.next:=fun j hj E=>by
   obtain⟨s,a,b⟩:=(d.Ai j hj).Ai;exact hb _ _ (b.block (ow.1 E))
  by_cases f:j=i<;>by_cases B:k=i
  ·intros;omega
  ·subst f;simp only[lh,Ke,B,bN,ak]
   intro a b e;rcases hq a with y|⟨L,O⟩
   ·have:=lq k hk b;omega
   ·exact absurd (d.A8p j k hj hk O b (by rw[<-L];exact e)).symm B
  ·subst B;simp only[lh,Ke,f,bN,ak]
   intro a b e;rcases hq b with y|⟨L,O⟩
   ·have:=lq j hj a;omega
   ·exact absurd (d.A8p j k hj hk a O (by rw[<-L];exact e)) f
  ·simp only[lh,Ke,f,B,ak]
   exact d.A8p j k hj hk
def Dv.has(D:Dv)(i:Int):Bool:=decide (0<=i/\i<D.n)
def Dv.D8(D:Dv)(i:Int):Int:=if D.down=true then 34 else if D.has i=false then 13 else 0
def Dv.tick(D:Dv):Dv:={ D with cnt:=Cr .i64 (D.cnt+1) }
def Dv.begin(D:Dv)(i:Int):Dv:=if D.D8 i=0 then D.tick else D
def Dv.set(D:Dv)(i:Nat)(Z:Zn):Dv:={ D with zs:=Ke D.zs i Z }
section
variable{z q:Nat->Nat}{size op:Int}{Zs:Nat->Zn}(d:L2 h V zl n z q size op cnt down Zs)
include d
theorem L2.list(k:EV->R):Ec (.ptr V 0) h k=k (.slice zl 0 n n true):=by rw[Cx d.dev rfl];rfl
theorem L2.rB(hi:i<n)(k:EV->R):Wn 1 (.slice zl 0 n n true) (I i) (fun v=>Ec v h k)=k (.ptr (z i) 0):=by
 unfold I;rw[Lg hi,Cx d.row rfl,bJ,br,bB,cB hi];rfl
theorem A8a(i:Int):Il K (.ptr V 0) (I i) h=some (.bool (decide (0<=i/\i<n)),h):=by
 simp only[Il,I,Ac,Aa];by_cases h0:0<=i
 ·simp only[h0,aB,Aa,Ac,d.list,Vd,gF]
 ·simp only[h0,aA,Aa,Vd,gI]
end
section
variable{D:Dv}(d:Hg h V D F)(hb:HB h)
include d
theorem uM(i:Int):Il K (.ptr V 0) (I i) h=some (.bool (D.has i),h):=by
 obtain⟨w,wl,zl,z,q,a,b⟩:=d;exact A8a a i
theorem UK(i:Int):Jw K (.ptr V 0) (I i) h=some (I (if D.has i=true then(D.zs i.toNat).st else 4),h):=by
 simp only[Jw,uM d,Aa];obtain⟨w,wl,zl,z,q,a,b⟩:=d;cases f:D.has i with
 | false=>simp only[Aa,I,aV,ak]
 | true=>
  have:=cS f;obtain⟨j,rfl⟩:∃j:Nat,i=j:=⟨i.toNat,a_⟩;have hj:j<D.n:=a_
  simp only[Aa,JM,a.list,a.rB hj,yk (a.Ai j hj),bN];rfl
include hb
theorem rI(i:Int):Ok (H4 K (.ptr V 0) (I i) h) fun v h'=>v=I (D.D8 i)/\Hg h' V (D.begin i) F/\As F h h'/\HB h'/\h'.next=h.next:=by
 have j:=uM (K:=K) d i;obtain⟨w,wl,zl,z,q,a,b⟩:=d;unfold Dv.begin Dv.D8;simp only[H4,Aa,Cx a.dev rfl];cases hd:D.down with
 | true=>
  simp only[Aa,bN,show((34:Int)=0)=False by simp,ak];exact .ret ⟨rfl,⟨w,wl,zl,z,q,a,b⟩,As.refl _,hb,rfl⟩
 | false=>
  simp only[Aa,j,aV,ak];cases y:D.has i with
  | false=>
   simp only[Aa,bN,show((13:Int)=0)=False by simp,ak];exact .ret ⟨rfl,⟨w,wl,zl,z,q,a,b⟩,As.refl _,hb,rfl⟩
  | true=>
   simp only[Aa,gA,ak,bN,IU,Cx a.dev rfl,I,Ac];have f:=hb _ _ a.dev;refine Ok.gK a.dev rfl rfl (by show 3<5;decide) ?_;refine .ret ⟨rfl,⟨⟨w.size,w.n,w.zs⟩,wl,zl,z,q,a.yl (Cr .i64 (D.cnt+1)) D.down,b⟩,(As.refl h).Aq (.inl (b _ (.inl rfl))) f _,hb.put f _,rfl⟩
end
end
theorem FJ {b:Nat}{s:DX}{call:Ab->R}(hb:Afc b s=true)(f:loose b s.nw = [])(hc:call h.lift=some (v,h.lift)):Mc i b s h call k=k v h (s.big i):=by
 have j:Ks b s h=h.lift:=by unfold Ks;rw[f];rfl
 show Bc (Afc b s) (Ev.Ao (call (Ks b s h)) fun v h'=>Pe i b s h h' fun s h=>k v h s) none=_;rw[hb,Aj,j,hc];show Pe i b s h h.lift (fun s h=>k v h s)=_;unfold Pe;rw[aO (show h.next<=h.lift.mw from aD _),Aj,f];rfl
theorem mi {b:Nat}{s:DX}{call:Ab->R}(hc:call h.lift=some (v,h.lift))(hb:Afc b s=true:=by kernel_rfl)(f:loose b s.nw = []:=by kernel_rfl):Mc i b s h call k=k v h (s.big i):=FJ hb f hc
theorem L2.lift{z q:Nat->Nat}{size op:Int}{Zs:Nat->Zn}(d:L2 h V zl n z q size op cnt down Zs):L2 h.lift V zl n z q size op cnt down Zs:=d.frame fun i _=>Bx h i
theorem Hg.lift{D:Dv}(d:Hg h V D F):Hg h.lift V D F:=d.frame (aD _) fun i _=>Bx h i
def iV(Zs:Nat->Zn)(n:Nat):Nat:=((List.range n).filter fun i=>(Zs i).st=1).length
theorem Bbt(Zs:Nat->Zn)(n:Nat):iV Zs (n+1)=iV Zs n+(if(Zs n).st=1 then 1 else 0):=by
 unfold iV;rw[dB,eK,aF];congr 1;by_cases hc:(Zs n).st=1<;>simp[hc]
theorem Biu(Zs:Nat->Zn)(n:Nat):iV Zs n<=n:=by
 unfold iV;have:=eL (fun i=>decide ((Zs i).st=1)) (List.range n);simpa using this
theorem A9b{z q:Nat->Nat}{size op:Int}{Zs:Nat->Zn}(d:L2 h V zl n z q size op cnt down Zs)(hn:n<=512):∀(m i:Nat),n-i<m->i<=n ->
 Iw K m (I (iV Zs i)) (.slice zl 0 n n true) (I n) (I i) h=some (I (iV Zs n),h):=by
 intro m;induction m with
 | zero=>intro i hm;omega
 | succ m B=>
  intro i hm hi;simp only[Iw,I,Ac,Aa];by_cases j:(i:Int)<n
  ·have y:i<n:=a_
   have A:=d.rB y;simp only[I]at A;have hle:=Biu Zs i;simp only[j,aB,Aa,Y7,A,yk (d.Ai i y),I,Ac];have f:=B (i+1) a_ a_;rw[Bbt]at f;by_cases h1:(Zs i).st=1
   ·rw[show decide (((Zs i).st:Int)=1)=true by simp[h1]]
    rw[aK h1]at f;simp only[Aa,Ac,Q5];rw[Cn,Cn];exact f
   ·rw[show decide (((Zs i).st:Int)=1)=false by simp;omega]
    rw[aH h1]at f;simp only[Aa,Ac,Q5];rw[Cn];exact f
  ·have:i=n:=a_
   subst this;simp only[j,aA,Aa,Za]
theorem Bep{z q:Nat->Nat}{size op:Int}{Zs:Nat->Zn}(d:L2 h V zl n z q size op cnt down Zs)(hn:n<=512)(hK:1000<K):
 Px K (.ptr V 0) h=some (I (iV Zs n),h):=by
 simp only[Px,Aa,d.list];exact A9b d hn K 0 a_ (cF _)
def Dv.append(D:Dv)(i:Int)(x:List EV):Dv × Int × Int:=
 if D.D8 i≠0 then(D,0,D.D8 i)else
 if(D.zs i.toNat).st=0/\D.op<=iV D.zs D.n then(D.tick,0,33)else
 if 2<=(D.zs i.toNat).st then(D.tick,0,if(D.zs i.toNat).st=2 then 17 else Jr (D.zs i.toNat).st)else
 (D.tick.set i.toNat ((D.zs i.toNat).app D.size x),(D.zs i.toNat).l.length,0)
theorem Zn.Wf.app {Z:Zn}{size:Nat}(w:Z.Wf size)(hs:Z.st<2)(j:U8 x):(Z.app size x).Wf size:=by
 have:=w.room hs;have:=w.safe;refine⟨fun y f=>?_,?_,?_,?_,?_⟩<;>try simp only[Zn.app,aF,List.length_singleton]
 ·rcases bH.1 f with f|f
  ·exact w.u8 y f
  ·rw[aN.1 f];exact j
 ·split<;>omega
 ·omega
 ·omega
 ·split<;>omega
theorem Dv.Wf.set {D:Dv}(w:D.Wf){Z:Zn}(z:Z.Wf D.size):(D.set i Z).Wf:=by
 refine⟨w.size,w.n,fun j hj=>?_⟩;show(Ke D.zs i Z j).Wf D.size;unfold Ke;split
 ·exact z
 ·exact w.zs j hj
theorem Hg.Ai{D:Dv}(w:D.Wf){z q:Nat->Nat}(a:L2 h V zl D.n z q D.size D.op D.cnt D.down D.zs)(b:∀i,A01 V zl D.n z q D.zs i->F i)(wl:∀i,F i->i<h.next)(hb:HB h)(hi:i<D.n){Z:Zn}
 (L:Z.Wf D.size) (E:Fj h' (z i) q' D.size Z) (c:As (fun j=>j=z i\/((D.zs i).l≠[]/\j=q i)) h h') (C:HB h') (hq:Z.l≠[]->h.next<=q'\/(q'=q i/\(D.zs i).l≠[])) :
 Hg h' V (D.set i Z) (Bi F h h')/\As F h h':=by
 have J:∀j,(j=z i\/((D.zs i).l≠[]/\j=q i))->F j:=by
  rintro j (y|⟨f,A⟩)
  ·exact b j (.inr (.inr ⟨i,hi,.inl y⟩))
  ·exact b j (.inr (.inr ⟨i,hi,.inr ⟨f,A⟩⟩))
 refine⟨⟨w.set L,Bi.lt wl c.next,zl,z,_,a.Ri hb hi E c hq,?_⟩,c.mono J⟩;rintro j (y|y|⟨d,hd,y⟩)
 ·exact .inl (b j (.inl y))
 ·exact .inl (b j (.inr (.inl y)))
 ·rcases y with y|⟨f,A⟩
  ·exact .inl (b j (.inr (.inr ⟨d,hd,.inl y⟩)))
  ·by_cases B:d=i
   ·subst B
    simp only[Dv.set,Ke,lh,bN]at f A;subst A;rcases hq f with y|⟨O,U⟩
    ·obtain⟨s,_,r⟩:=E.Ai
     exact .inr ⟨y,C _ _ (r.block (ow.1 f))⟩
    ·rw[O];exact .inl (J _ (.inr ⟨U,rfl⟩))
   ·simp only[Dv.set,Ke,lh,B,ak]at f A
    exact .inl (b j (.inr (.inr ⟨d,hd,.inr ⟨f,A⟩⟩)))
theorem A08{D:Dv}(d:Hg h V D F)(hb:HB h)(hK:1000<K)(i:Int)(hx:x.length=64)(hu:U8 x):
 Ok (Pz K (.ptr V 0) (I i) (.agg x) h) fun v h'=>v=.tuple [I (D.append i x).2.1,I (D.append i x).2.2]/\Hg h' V (D.append i x).1 (Bi F h h')/\As F h h'/\HB h':=by
 simp only[Pz,Aa];have x1:Ext h (h.new (.cells x 32)):=As.new _ _;have L:(h.new (.cells x 32)).get h.next=some (.cells x 32):=Ad _ _
 have E:HB (h.new (.cells x 32)):=hb.new _;have d1:=d.ext x1;have n1:(h.new (.cells x 32)).next=h.next+1:=rfl
 generalize h.new (.cells x 32)=h1 at x1 L E d1 n1⊢;refine(rI (K:=K) d1 E i).Ao ?_;rintro _ h2 ⟨rfl,d2,c2,A,n2⟩;have nx:¬F h.next:=fun y=>bX _ (d.lt _ y)
 have L:=c2.at E L nx;have B:As F h h2:=(Ext.to x1).trans c2;unfold Dv.append;unfold Dv.begin at d2;by_cases f:D.D8 i=0
 ·rw[aK f]at d2
  rw[aH (by rw[f];exact fun y=>y rfl),f];simp only[I,Ac,aC,aA,Aa,Yy];obtain⟨w,wl,zl,z,q,a,b⟩:=d2;have O:D.has i=true:=by
   unfold Dv.D8 at f;cases hh:D.has i with
   | true=>rfl
   | false=>rw[hh]at f;split at f<;>simp at f
  have:=cS O;obtain⟨j,rfl⟩:∃j:Nat,i=j:=⟨i.toNat,a_⟩;have hj:j<D.n:=a_
  rw[show(j:Int).toNat=j from rfl];have lV:=A _ _ a.dev;have U:=A _ _ a.row;have l5:=A _ _ L;have lz:=A _ _ (a.Ai j hj).Ai.choose_spec.1;have W:∀k:EV->R,Ec (.ptr zl j) h2 k=k (.ptr (z j) 0):=fun k=>by
   have:=a.rB hj k;unfold I at this;rw[Lg (show j<D.tick.n from hj),bJ,br]at this;exact this
  have X:∀k:EV->R,Wn 1 (.slice zl 0 D.tick.n D.tick.n true) (.int .i64 (j:Int)) k=k (.ptr zl j):=fun k=>by
   rw[Lg (show j<D.tick.n from hj),bJ,br]
  simp only[Aa,Au,Cp lV,a.list,X,Cp U,W];rw[mi (yk (a.lift.Ai j hj))];have ai:=Bep (K:=K) a.lift w.n hK;have dd:∀h',Ext h2 h'->Hg h' V D.tick (Bi F h h')/\As F h h'/\HB h':=fun h' x'=>⟨(Hg.ext ⟨w,wl,zl,z,q,a,b⟩ x').grow d.lt (by have:=B.next;have:=x'.next;omega),B.trans (Ext.to x'),x'.hb A⟩
  have app:¬((D.zs j).st=0/\D.op<=iV D.zs D.n)->Ok (Qz K (.ptr V 0) (I j) (.ptr h.next 0) h2) fun v h'=>v=.tuple [I (if(D.zs j).st=0/\D.op<=iV D.zs D.n then(D.tick,0,33)else if 2<=(D.zs j).st then(D.tick,0,if(D.zs j).st=2 then 17 else Jr (D.zs j).st)else(D.tick.set j ((D.zs j).app D.size x),((D.zs j).l.length:Int),(0:Int))).2.1,I (if(D.zs j).st=0/\D.op<=iV D.zs D.n then(D.tick,0,33)else if 2<=(D.zs j).st then(D.tick,0,if(D.zs j).st=2 then 17 else Jr (D.zs j).st)else(D.tick.set j ((D.zs j).app D.size x),((D.zs j).l.length:Int),(0:Int))).2.2]/\Hg h' V (if(D.zs j).st=0/\D.op<=iV D.zs D.n then(D.tick,0,33)else if 2<=(D.zs j).st then(D.tick,0,if(D.zs j).st=2 then 17 else Jr (D.zs j).st)else(D.tick.set j ((D.zs j).app D.size x),((D.zs j).l.length:Int),(0:Int))).1 (Bi F h h')/\As F h h'/\HB h':=by
   intro aj;rw[aH aj];simp only[Qz,I,Aa,Au,Cp lV,a.list,X,Cp U,W,Cp l5,Cz L rfl,Ak hx];have wz:=w.zs j hj;have ao:=w.size;have aq:=wz.len;by_cases J:2<=(D.zs j).st
   ·rw[aK J]
    refine Ok.bE (Aze (K:=K) (a.lift.Ai j hj) (Dj A) J wz.st x) (fun _ _ p=>p.2) ?_;rintro _ h3 h4 ⟨rfl,_⟩ sm x4;simp only[Aa];exact .ret ⟨rfl,dd h4 x4⟩
   ·rw[aH J]
    have C:(D.zs j).st<2:=a_
    refine Ok.pV (S:=fun i=>i=z j\/(0<(D.zs j).l.length/\i=q j)) (by kernel_rfl) (by kernel_rfl) (fun _=>by kernel_rfl) (Ayr (K:=K) (size:=D.size) (a.lift.Ai j hj) (Dj A) C (bS aq ao) hx) (fun _ _ p=>p.2.2.1) ?_;rintro _ h3 h4 s' ⟨rfl,⟨q',zz,Y⟩,_,au⟩ sm c4 _;simp only[Aa];have aa:=sm.hb au;have aw:Fj h4 (z j) q' D.size ((D.zs j).app D.size x):=zz.ext fun i o g=>by rw[sm.get];exact g
    obtain⟨d4,ad⟩:=Hg.Ai w a b wl A hj (wz.app C hu) aw (c4.mono fun i hi=>by
     rcases hi with y|⟨y1,y2⟩
     ·exact .inl y
     ·exact .inr ⟨ow.2 y1,y2⟩) aa (fun _=>.inl (by rw[qu]at Y;exact Y))
    refine .ret ⟨rfl,?_,B.trans ad,aa⟩;refine d4.mono (fun i hi=>?_) (Bi.lt d.lt (B.trans ad).next);rcases hi with y|y
    ·exact .inl y
    ·exact .inr ⟨bS B.next y.1,y.2⟩
  simp only[I,Ac];by_cases h0:(D.zs j).st=0
  ·rw[show decide (((D.tick.zs j).st:Int)=0)=true from aR (by show((D.zs j).st:Int)=0;omega)]
   simp only[Aa,Ac];rw[mi ai];rw[Jg lV,Cx a.dev rfl];simp only[Aa,I,Ac,Mb];by_cases ho:D.op<=iV D.zs D.n
   ·rw[show decide (D.tick.op<=((iV D.tick.zs D.tick.n:Nat):Int))=true from aR ho]
    simp only[Aa];rw[aK ⟨h0,ho⟩];exact .ret ⟨rfl,dd h2 (As.refl _)⟩
   ·rw[show decide (D.tick.op<=((iV D.tick.zs D.tick.n:Nat):Int))=false from aU ho]
    simp only[Aa];exact app fun y=>ho y.2
  ·rw[show decide (((D.tick.zs j).st:Int)=0)=false from aU (by show ¬((D.zs j).st:Int)=0;omega)]
   simp only[Aa,Ac,Mb];exact app fun y=>h0 y.1
 ·rw[aH f]at d2
  rw[aK f];simp only[I,Ac,f,aG,aB,Aa];exact .ret ⟨rfl,d2.grow d.lt B.next,B,A⟩
def Dv.read(D:Dv)(i off:Int):List EV × Int:=if D.D8 i≠0 then(Sf,D.D8 i)else Ym (D.zs i.toNat) off
theorem Dv.oy {D:Dv}{i:Int}(f:D.D8 i=0):∃j:Nat,i=j/\j<D.n:=by
 have y:D.has i=true:=by
  unfold Dv.D8 at f;cases A:D.has i with
  | true=>rfl
  | false=>rw[A]at f;split at f<;>simp at f
 have:=cS y;exact⟨i.toNat,a_,a_⟩
theorem L2.pJ{z q:Nat->Nat}{size op:Int}{Zs:Nat->Zn}(d:L2 h V zl n z q size op cnt down Zs){j:Nat}(hj:j<n):
 (∀k:EV->R,Wn 1 (.slice zl 0 n n true) (.int .i64 (j:Int)) k=k (.ptr zl j))/\(∀k:EV->R,Ec (.ptr zl j) h k=k (.ptr (z j) 0)):=by
 have f:∀k:EV->R,Wn 1 (.slice zl 0 n n true) (.int .i64 (j:Int)) k=k (.ptr zl j):=fun k=>by
  rw[Lg hj,bJ,br]
 refine⟨f,fun k=>?_⟩;have:=d.rB hj k;unfold I at this;rw[f]at this;exact this
theorem A87{D:Dv}(d:Hg h V D F)(hb:HB h)(i off:Int):
 Ok (Tl K (.ptr V 0) (I i) (I off) h) fun v h'=>v=.tuple [.agg (D.read i off).1,I (D.read i off).2]/\(D.read i off).1.length=64/\Hg h' V (D.begin i) (Bi F h h')/\As F h h'/\HB h':=by
 simp only[Tl,Aa];have U:Ext h (h.new (.cells (List.replicate 64 (.int .u8 0)) 32)):=As.new _ _;have L:(h.new (.cells (List.replicate 64 (.int .u8 0)) 32)).get h.next=some (.cells Sf 32):=Ad _ _
 have B:HB (h.new (.cells (List.replicate 64 (.int .u8 0)) 32)):=hb.new _;have d1:=d.ext U;generalize h.new (.cells (List.replicate 64 (.int .u8 0)) 32)=h1 at U L B d1⊢;refine(rI (K:=K) d1 B i).Ao ?_;rintro _ h2 ⟨rfl,d2,c2,C,n2⟩;have nx:¬F h.next:=fun y=>bX _ (d.lt _ y)
 have L:=c2.at B L nx;have W:As F h h2:=(Ext.to U).trans c2;have fin:∀(l:List EV) (e:Int) (A:Ab),Ext h2 A->l.length=64->Ok (f_ 64 (.ptr h.next 0) (.agg l) A fun h=>Iq TT [.c (.ptr h.next 0) 32,.v (I e)] h) (fun _ _=>True)->True:=fun _ _ _ _ _ _=>trivial
 clear fin;have fin:∀(l:List EV) (e:Int) (A:Ab) (kk:Ab->R),(∀h',kk h'=Iq TT [.c (.ptr h.next 0) 32,.v (I e)] h')->Ext h2 A->l.length=64->(l,e)=D.read i off->Ok (f_ 64 (.ptr h.next 0) (.agg l) A kk) fun v h'=>v=.tuple [.agg (D.read i off).1,I (D.read i off).2]/\(D.read i off).1.length=64/\Hg h' V (D.begin i) (Bi F h h')/\As F h h'/\HB h':=by
  intro l e A kk X E O he;have J:=E.hb C;have g3:=E.at C L;refine Ok.st l g3 rfl (by rw[show EV.cells (.agg l)=l from rfl,Bb,O]) (Bn (by rw[Kg];exact O.symm)) ?_;rw[X,Fi (Ae _ _ _) kg.1 kg.2 O,<-he];have l3:=J _ _ g3;have c3:As F h (A.put h.next (.cells l 32)):=(W.trans (Ext.to E)).Aq (.inr (aD _)) l3 _;refine .ret ⟨rfl,O,?_,c3,J.put l3 _⟩;refine(((d2.ext E).frame (h':=A.put h.next (.cells l 32)) (aD _) fun j hj=>Af _ fun y=>?_)).grow d.lt c3.next
  subst y;exact nx hj
 unfold Dv.read at fin⊢;by_cases f:D.D8 i=0
 ·rw[aH (by rw[f];exact fun y=>y rfl)]at fin⊢
  have Y:D.begin i=D.tick:=by unfold Dv.begin;rw[aK f]
  rw[Y]at d2 fin⊢;rw[f];obtain⟨j,rfl,hj⟩:=Dv.oy f;obtain⟨zl,z,q,a,b⟩:=d2.Mh;obtain⟨aa,ad⟩:=a.pJ (j:=j) hj;simp only[I,Ac,aC,aA,Aa,JU,a.list,aa,ad];refine(A3o (K:=K) (a.Ai j hj) C off).Ao ?_;rintro _ A ⟨rfl,E⟩;simp only[Aa];exact fin _ _ A _ (fun _=>rfl) E (Bea (a.Ai j hj).wf off) rfl
 ·rw[aK f]at fin⊢
  simp only[I,Ac,f,aG,aB,Aa];rw[Ax (l:=Sf) rfl];exact fin Sf (D.D8 i) h2 _ (fun _=>rfl) (As.refl _) Kg rfl
def Dv.finish(D:Dv)(i:Int):Dv × Int:=
 if D.D8 i≠0 then(D,D.D8 i)else
 (if Jr (D.zs i.toNat).st=0 then D.tick.set i.toNat (D.zs i.toNat).finish else D.tick,Jr (D.zs i.toNat).st)
theorem Zn.Wf.finish {Z:Zn}{size:Nat}(w:Z.Wf size):Z.finish.Wf size:=⟨w.u8,by show 2<=4;omega,w.safe,w.len,fun y=>absurd y (by show ¬2<2;omega)⟩
theorem A0z{D:Dv}(d:Hg h V D F)(hb:HB h)(i:Int):
 Ok (Pc K (.ptr V 0) (I i) h) fun v h'=>v=I (D.finish i).2/\Hg h' V (D.finish i).1 (Bi F h h')/\As F h h'/\HB h':=by
 simp only[Pc,dr];refine(rI (K:=K) d hb i).Ao ?_;rintro _ h2 ⟨rfl,d2,c2,B,X⟩;unfold Dv.finish;by_cases f:D.D8 i=0
 ·rw[aH (by rw[f];exact fun y=>y rfl),f]
  have E:D.begin i=D.tick:=by unfold Dv.begin;rw[aK f]
  rw[E]at d2;obtain⟨j,rfl,hj⟩:=Dv.oy f;obtain⟨zl,z,q,a,b⟩:=d2.Mh;obtain⟨L,O⟩:=a.pJ (j:=j) hj;simp only[I,Ac,aC,aA,Aa,Yx,a.list,L,O];refine(Azp (K:=K) (a.Ai j hj) B).Ao ?_;rintro _ U ⟨rfl,J,c3,C⟩
  try simp only[Aa]
  rw[show(j:Int).toNat=j from rfl];have J:Fj U (z j) (q j) D.size (if Jr (D.zs j).st=0 then(D.zs j).finish else D.zs j):=J;by_cases W:Jr (D.zs j).st=0
  ·simp only[W,bN]at J⊢
   obtain⟨d3,A⟩:=Hg.Ai d2.wf a b d2.lt B hj (d2.wf.zs j hj).finish J (c3.mono fun _=>.inl) C (fun y=>.inr ⟨rfl,y⟩);refine .ret ⟨by rw[show Jr (D.tick.zs j).st=Jr (D.zs j).st from rfl,W],d3.mono (fun i hi=>?_) (Bi.lt d.lt (c2.trans A).next),c2.trans A,C⟩;rcases hi with y|y
   ·exact .inl y
   ·exact .inr ⟨bS c2.next y.1,y.2⟩
  ·simp only[W,ak]at J⊢
   obtain⟨d3,A⟩:=Hg.Ai d2.wf a b d2.lt B hj (d2.wf.zs j hj) J (c3.mono fun _=>.inl) C (fun y=>.inr ⟨rfl,y⟩);have e:D.tick.set j (D.zs j)=D.tick:=by
    unfold Dv.set;have:Ke D.tick.zs j (D.zs j)=D.tick.zs:=by funext k;unfold Ke;split<;>simp_all [Dv.tick]
    rw[this]
   have d3:Hg U V (D.tick.set j (D.zs j)) (Bi F h2 U):=d3;rw[e]at d3;refine .ret ⟨rfl,d3.mono (fun i hi=>?_) (Bi.lt d.lt (c2.trans A).next),c2.trans A,C⟩;rcases hi with y|y
   ·exact .inl y
   ·exact .inr ⟨bS c2.next y.1,y.2⟩
 ·rw[aK f]
  have E:D.begin i=D:=by unfold Dv.begin;rw[aH f]
  rw[E]at d2;simp only[I,Ac,f,aG,aB,Aa];exact .ret ⟨rfl,d2.grow d.lt c2.next,c2,B⟩
def Dv.RA(D:Dv):Dv:={ D with down:=true }
theorem A4i{D:Dv}(d:Hg h V D F)(hb:HB h):
 Ok (Rl K (.ptr V 0) h) fun v h'=>Hg h' V D.RA F/\As F h h'/\HB h':=by
 obtain⟨w,wl,zl,z,q,a,b⟩:=d;simp only[Rl,Aa];have f:=hb _ _ a.dev;refine Ok.gK a.dev rfl rfl (by show 4<5;decide) ?_;exact .ret ⟨⟨⟨w.size,w.n,w.zs⟩,wl,zl,z,q,a.yl D.cnt true,b⟩,(As.refl h).Aq (.inl (b _ (.inl rfl))) f _,hb.put f _⟩
structure jo(h:Ab)(V zl:Nat)(z:Nat->Nat)(D:Dv)(F:Nat->Prop):Prop where
 wf:D.Wf
 lt:∀i,F i->i<h.next
 Mh:∃q,L2 h V zl D.n z q D.size D.op D.cnt D.down D.zs/\∀i,A01 V zl D.n z q D.zs i->F i
theorem Hg.z{D:Dv}(d:Hg h V D F):∃zl z,jo h V zl z D F:=by
 obtain⟨zl,z,q,a,b⟩:=d.Mh;exact⟨zl,z,d.wf,d.lt,q,a,b⟩
theorem jo.s{z:Nat->Nat}{D:Dv}(d:jo h V zl z D F):Hg h V D F:=by
 obtain⟨q,a,b⟩:=d.Mh;exact⟨d.wf,d.lt,zl,z,q,a,b⟩
theorem jo.mono{z:Nat->Nat}{D:Dv}(d:jo h V zl z D F)(s:∀i,F i->G i)(l:∀i,G i->i<h.next):jo h V zl z D G:=by
 obtain⟨q,a,b⟩:=d.Mh;exact⟨d.wf,l,q,a,fun i hi=>s i (b i hi)⟩
theorem jo.congr{z:Nat->Nat}{D:Dv}(d:jo h V zl z D F){zs':Nat->Zn}(e:∀i,i<D.n->zs' i=D.zs i):jo h V zl z { D with zs:=zs' } F:=by
 obtain⟨q,a,b⟩:=d.Mh;refine⟨⟨d.wf.size,d.wf.n,fun i hi=>?_⟩,d.lt,q,⟨a.pos,a.dev,a.row,fun i hi=>?_,a.A5b,fun i j hi hj=>?_⟩,?_⟩
 ·show(zs' i).Wf _;rw[e i hi];exact d.wf.zs i hi
 ·show Fj _ _ _ _ (zs' i);rw[e i hi];exact a.Ai i hi
 ·show(zs' i).l≠[]->(zs' j).l≠[]->_;rw[e i hi,e j hj];exact a.A8p i j hi hj
 ·rintro i (y|y|⟨k,hk,y⟩)
  ·exact b i (.inl y)
  ·exact b i (.inr (.inl y))
  ·refine b i (.inr (.inr ⟨k,hk,?_⟩))
   have y:i=z k\/(zs' k).l≠[]/\i=q k:=y;rw[e k hk]at y;exact y
theorem jo.Ai{z:Nat->Nat}{D:Dv}(d:jo h V zl z D F){q:Nat->Nat}(a:L2 h V zl D.n z q D.size D.op D.cnt D.down D.zs)(b:∀i,A01 V zl D.n z q D.zs i->F i)(hb:HB h)(hi:i<D.n){Z:Zn}
 (L:Z.Wf D.size) (E:Fj h' (z i) q' D.size Z) (c:As (fun j=>j=z i\/((D.zs i).l≠[]/\j=q i)) h h') (C:HB h') (hq:Z.l≠[]->h.next<=q'\/(q'=q i/\(D.zs i).l≠[])) :
 jo h' V zl z (D.set i Z) (Bi F h h')/\As F h h':=by
 have J:∀j,(j=z i\/((D.zs i).l≠[]/\j=q i))->F j:=by
  rintro j (y|⟨f,A⟩)
  ·exact b j (.inr (.inr ⟨i,hi,.inl y⟩))
  ·exact b j (.inr (.inr ⟨i,hi,.inr ⟨f,A⟩⟩))
 refine⟨⟨d.wf.set L,Bi.lt d.lt c.next,_,a.Ri hb hi E c hq,?_⟩,c.mono J⟩;rintro j (y|y|⟨d,hd,y⟩)
 ·exact .inl (b j (.inl y))
 ·exact .inl (b j (.inr (.inl y)))
 ·rcases y with y|⟨f,A⟩
  ·exact .inl (b j (.inr (.inr ⟨d,hd,.inl y⟩)))
  ·by_cases B:d=i
   ·subst B
    simp only[Dv.set,Ke,lh,bN]at f A;subst A;rcases hq f with y|⟨O,U⟩
    ·obtain⟨s,_,r⟩:=E.Ai
     exact .inr ⟨y,C _ _ (r.block (ow.1 f))⟩
    ·rw[O];exact .inl (J _ (.inr ⟨U,rfl⟩))
   ·simp only[Dv.set,Ke,lh,B,ak]at f A
    exact .inl (b j (.inr (.inr ⟨d,hd,.inr ⟨f,A⟩⟩)))
def ng(f:Nat->Zn->Zn)(zs:Nat->Zn)(i:Nat):Nat->Zn:=fun j=>if j<i then f j (zs j)else zs j
theorem A96(f:Nat->Zn->Zn)(zs:Nat->Zn)(i:Nat):ng f zs (i+1)=Ke (ng f zs i) i (f i (zs i)):=by
 funext j;unfold ng Ke;by_cases h1:j=i
 ·subst h1;simp
 ·by_cases h2:j<i
  ·rw[aK a_,aH h1];exact(aK h2).symm
  ·rw[aH a_,aH h1];exact(aH h2).symm
theorem RB(f:Nat->Zn->Zn)(zs:Nat->Zn)(i:Nat):ng f zs i i=zs i:=by unfold ng;rw[aH a_]
def Dv.flush(D:Dv):Dv × Int:=if D.down=true then(D,34)else({ D.tick with zs:=fun i=>(D.zs i).flush },0)
theorem Zn.Wf.flush {Z:Zn}{size:Nat}(w:Z.Wf size):Z.flush.Wf size:=⟨w.u8,w.st,aD _,w.len,w.room⟩
theorem Bab{z:Nat->Nat}{D:Dv}(h0:Ab)(C:∀j,F j->j<h0.next):∀(m i:Nat) (h:Ab),D.n-i<m->i<=D.n->HB h->As F h0 h->jo h V zl z { D with zs:=ng (fun _ Z=>Z.flush) D.zs i } (Bi F h0 h) ->
 Ok (Jv K m (.slice zl 0 D.n D.n true) (I D.n) (I i) h) fun v h'=>v=I 0/\jo h' V zl z { D with zs:=ng (fun _ Z=>Z.flush) D.zs D.n } (Bi F h0 h')/\As F h0 h'/\HB h':=by
 intro m;induction m with
 | zero=>intro i h hm;omega
 | succ m W=>
  intro i h hm hi hb c d;have hn:=d.wf.n;have hn:D.n<=512:=hn;simp only[Jv,I,Ac,Aa];by_cases A:(i:Int)<D.n
  ·have f:i<D.n:=a_
   obtain⟨q,a,b⟩:=d.Mh;obtain⟨E,J⟩:=a.pJ (j:=i) f;simp only[A,aB,Aa,I2,E,J];have O:=a.Ai i f;have U:=d.wf.zs i f;simp only[RB]at O U;refine(A07 (K:=K) O hb).Ao ?_;rintro _ h1 ⟨X,c1,B⟩;simp only[IZ,I,Ac];rw[Cn];obtain⟨d1,L⟩:=d.Ai a b hb f U.flush X (c1.mono fun _=>.inl) B (fun y=>.inr ⟨rfl,by simp only[RB];exact y⟩);have c2:=c.grow L;refine W (i+1) h1 a_ a_ B c2 ?_;rw[A96];exact d1.mono (fun j hj=>Bi.trans c.next c1.next hj) (Bi.lt C c2.next)
  ·have:i=D.n:=a_
   subst this;simp only[A,aA,Aa,IY];exact .ret ⟨rfl,d,c,hb⟩
theorem A45{D:Dv}(d:Hg h V D F)(hb:HB h)(hK:1000<K):
 Ok (Ro K (.ptr V 0) h) fun v h'=>v=I D.flush.2/\Hg h' V D.flush.1 (Bi F h h')/\As F h h'/\HB h':=by
 obtain⟨w,wl,zl,z,q,a,b⟩:=d;have hn:=w.n;unfold Dv.flush;simp only[Ro,Aa,Cx a.dev rfl];cases hd:D.down with
 | true=>
  simp only[Aa,bN];exact .ret ⟨rfl,Hg.grow ⟨w,wl,zl,z,q,a,b⟩ wl (aD _),As.refl _,hb⟩
 | false=>
  simp only[Aa,aV,ak,I4,Cx a.dev rfl,I,Ac];have y:=hb _ _ a.dev;refine Ok.gK a.dev rfl rfl (by show 3<5;decide) ?_;have c1:As F h (h.put V (.cells ([EV.slice zl 0 D.n D.n true,I D.size,I D.op,I D.cnt,.bool D.down].set 3 (.int .i64 (Cr .i64 (D.cnt+1)))) 131)):=(As.refl h).Aq (.inl (b _ (.inl rfl))) y _;have f:HB (h.put V (.cells ([EV.slice zl 0 D.n D.n true,I D.size,I D.op,I D.cnt,.bool D.down].set 3 (.int .i64 (Cr .i64 (D.cnt+1)))) 131)):=hb.put y _;have d1:jo (h.put V (.cells ([EV.slice zl 0 D.n D.n true,I D.size,I D.op,I D.cnt,.bool D.down].set 3 (.int .i64 (Cr .i64 (D.cnt+1)))) 131)) V zl z D.tick F:=⟨⟨w.size,w.n,w.zs⟩,wl,q,a.yl (Cr .i64 (D.cnt+1)) D.down,b⟩;generalize h.put V (.cells ([EV.slice zl 0 D.n D.n true,I D.size,I D.op,I D.cnt,.bool D.down].set 3 (.int .i64 (Cr .i64 (D.cnt+1)))) 131)=h1 at c1 f d1⊢;obtain⟨B,A,b1⟩:=d1.Mh;rw[Cx A.dev rfl];simp only[Aa];have:=Bab (K:=K) (D:=D.tick) (F:=F) h wl K 0 h1 (by show D.n-0<K;omega) (cF _) f c1 (jo.congr (d1.mono (fun _=>.inl) (Bi.lt wl c1.next)) (fun i _=>by unfold ng;rw[aH (cJ _)]));refine this.mono ?_;rintro v h2 ⟨rfl,d2,c2,j⟩;refine⟨rfl,?_,c2,j⟩;exact(d2.congr (zs':=fun i=>(D.zs i).flush) fun i hi=>(aK hi).symm).s
def Dv.fail(D:Dv)(i:Int)(st:Nat):Dv:=if D.has i=true then D.set i.toNat ((D.zs i.toNat).fail st)else D
theorem Zn.Wf.fail {Z:Zn}{size:Nat}(w:Z.Wf size)(st:Nat):(Z.fail st).Wf size:=by
 unfold Zn.fail;split
 ·exact⟨w.u8,by show st<=4;omega,w.safe,w.len,fun y=>absurd y (by show ¬st<2;omega)⟩
 ·exact w
theorem A7y{D:Dv}(d:Hg h V D F)(hb:HB h)(i:Int)(st:Nat):
 Ok (Ow K (.ptr V 0) (I i) (I st) h) fun v h'=>Hg h' V (D.fail i st) (Bi F h h')/\As F h h'/\HB h':=by
 simp only[Ow,uM d,Aa];unfold Dv.fail;cases E:D.has i with
 | false=>
  simp only[Aa,aV,ak];exact .ret ⟨d.grow d.lt (aD _),As.refl _,hb⟩
 | true=>
  have:=cS E;obtain⟨j,rfl⟩:∃j:Nat,i=j:=⟨i.toNat,a_⟩;have hj:j<D.n:=a_
  obtain⟨zl,z,q,a,b⟩:=d.Mh;obtain⟨A,B⟩:=a.pJ (j:=j) hj;simp only[Aa,bN,JK,a.list];unfold I;rw[A,B];refine(A35 (K:=K) (a.Ai j hj) hb st).Ao ?_;rintro _ L ⟨J,c3,f⟩;obtain⟨d3,C⟩:=Hg.Ai d.wf a b d.lt hb hj ((d.wf.zs j hj).fail st) J (c3.mono fun _=>.inl) f (fun y=>.inr ⟨rfl,by
   unfold Zn.fail at y;split at y<;>exact y⟩)
  exact .ret ⟨d3,C,f⟩
def kp(a b:Int):EV:=.agg [I a,I b]
def Alf(ms:List (EV × EV)):Prop:=∀e∈ms,∃a b p n,e=(kp a b,.agg (p++[I n]))/\U8 p/\p.length=64
theorem pI(a b:Int):jL (I a) (I b)=some (decide (a=b)):=by
 show Bc (Nat.beq (Ql .i64) (Ql .i64)) (some (iN a b)) none=_;rw[cO,Aj,kX]
theorem Big(a b c d:Int):l_ (kp a b) (kp c d)=some (decide (a=c/\b=d)):=by
 show Fk [I a,I b] [I c,I d]=_;unfold Fk;rw[pI];by_cases h1:a=c
 ·rw[aR h1]
  simp only[Fk,pI];by_cases h2:b=d
  ·rw[aR h2,aR ⟨h1,h2⟩]
  ·rw[aU h2,aU fun y=>h2 y.2]
 ·rw[aU h1,aU fun y=>h1 y.1]
  simp only[Fk,pI];by_cases h2:b=d
  ·rw[aR h2]
  ·rw[aU h2]
theorem uN(a b:Int):∀(ms:List (EV × EV)) (i:Nat),Alf ms->Hy (kp a b) ms i=some none\/∃j p n,Hy (kp a b) ms i=some (some (j,.agg (p++[I n])))/\U8 p/\p.length=64
 | [],i,_=>.inl rfl
 | (x,y)::r,i,hm=>by
  obtain⟨f,A,p,n,e,B,C⟩:=hm _ (aQ ..);cases e;have E:=uN a b r (Nat.succ i) fun e he=>hm e (aP _ he)
  unfold Hy;rw[Big];by_cases hc:a=f/\b=A
  ·rw[aR hc];exact .inr ⟨i,p,n,rfl,B,C⟩
  ·rw[aU hc];exact E
theorem ym(a b:Int):Oe TT 239 (kp a b)=true:=by
 have h1:TT.key 239=true:=by kernel_rfl
 have h2:TT.eqs 239=some [0,0]:=by kernel_rfl
 unfold Oe kp;simp only[h1,h2,Aj];rw[show shaped [0,0] [I a,I b]=true from rfl,Aj];simp only[Fk,pI,aB]
theorem RC{M:Nat}(f:h.get M=some (.map ms))(hm:Alf ms)(a b:Int):∃iS,builtin TT .delete #[116,239] [.map M,kp a b] h=some (.tuple [],h.put M (.map iS))/\Alf iS:=by
 have hu:TT.T6 116=some (.map 239 254):=by kernel_rfl
 have e:builtin TT .delete #[116,239] [.map M,kp a b] h=Bc (Oe TT 239 (kp a b)) (match h.get M with
  | some (.map es)=>match Hy (kp a b) es 0 with
   | some (some (j,_))=>some (.tuple [],h.put M (.map (es.eraseIdx j)))
   | some none=>some (.tuple [],h.put M (.map es))
   | none=>none
  | _=>none) none:=by
  unfold builtin;simp only[hu];rfl
 rw[e,ym,Aj,f];rcases uN a b ms 0 hm with y|⟨j,p,n,y,_⟩
 ·simp only[y];exact⟨ms,rfl,hm⟩
 ·simp only[y];exact⟨_,rfl,fun e he=>hm e (List.mem_of_mem_eraseIdx he)⟩
theorem Bhj{M:Nat}(f:h.get M=some (.map ms))(hm:Alf ms)(a b:Int):∃p n,oO TT 239 254 false (.map M) (kp a b) h=some (.agg (p++[I n]),h)/\U8 p/\p.length=64:=by
 have e:oO TT 239 254 false (.map M) (kp a b) h=Bc (Oe TT 239 (kp a b)) (match h.get M with
  | some (.map es)=>match Hy (kp a b) es 0 with
   | some (some (_,v))=>some (v,h)
   | some none=>oB (fun A=>some (A,h)) (zeroOf TT 254)
   | none=>none
  | _=>none) none:=rfl
 have B:zeroOf TT 254=some (.agg (Sf++[I 0])):=by kernel_rfl
 rw[e,ym,Aj,f];rcases uN a b ms 0 hm with y|⟨j,p,n,y,C,E⟩
 ·simp only[y,B];exact⟨Sf,0,rfl,U8.zs,Kg⟩
 ·simp only[y];exact⟨p,n,rfl,C,E⟩
theorem A5j{M:Nat}(B:h.get M=some (.map ms))(hm:Alf ms)(a b:Int){p:List EV}{n:Int}(f:U8 p)(A:p.length=64):∃iS,Zr TT 239 (.map M) (kp a b) (.agg (p++[I n])) h=some (.tuple [],h.put M (.map iS))/\Alf iS:=by
 have e:Zr TT 239 (.map M) (kp a b) (.agg (p++[I n])) h=Bc (Oe TT 239 (kp a b)) (match h.get M with
  | some (.map es)=>match Hy (kp a b) es 0 with
   | some (some (j,_))=>some (.tuple [],h.put M (.map (es.set j (kp a b,.agg (p++[I n])))))
   | some none=>some (.tuple [],h.put M (.map (es++[(kp a b,.agg (p++[I n]))])))
   | none=>none
  | _=>none) none:=rfl
 rw[e,ym,Aj,B];rcases uN a b ms 0 hm with y|⟨j,C,E,y,_⟩
 ·simp only[y]
  refine⟨_,rfl,fun e he=>?_⟩;rcases bH.1 he with he|he
  ·exact hm e he
  ·rw[aN.1 he];exact⟨a,b,p,n,rfl,f,A⟩
 ·simp only[y]
  refine⟨_,rfl,fun e he=>?_⟩;rcases cj he with he|he
  ·exact hm e he
  ·rw[he];exact⟨a,b,p,n,rfl,f,A⟩
structure Jj where
 Mh:Int
 kind:Int
 Ai:Int
 off:Int
 pat:List EV
def Jj.cells(e:Jj):List EV:=[I e.Mh,I e.kind,I e.Ai,I e.off]++e.pat
structure Jj.Wf(e:Jj):Prop where
 u8:U8 e.pat
 len:e.pat.length=64
structure Jp where
 dv:Dv
 ev:List Jj
 Le:List Jj
def Brh:EV->EV->EV
 | .int k x,.int _ y=>.int k (Int.ofNat (Nat.xor x.toNat y.toNat))
 | a,_=>a
def Sa(a b:List EV):List EV:=List.zipWith Brh a b
def Dv.lE(D:Dv)(z off:Int)(p:List EV):Dv:=
 if D.has z=true/\0<=off/\off<(D.zs z.toNat).l.length then D.set z.toNat { D.zs z.toNat with l:=(D.zs z.toNat).l.set off.toNat (Sa (((D.zs z.toNat).l[off.toNat]?).getD Sf) p) }else D
def Dv.N3(D:Dv)(e:Jj):Dv:=
 if e.kind=1 then D.lE e.Ai e.off e.pat else if e.kind=2 then D.fail e.Ai 3 else if e.kind=3 then D.fail e.Ai 4 else if e.kind=4 then D.RA else D
def jj:List Jj->Dv->List Jj->Jp
 | [],D,k=>⟨D,[],k⟩
 | e::r,D,k=>if D.down=true\/¬e.Mh<=D.cnt then⟨D,e::r,k⟩else jj r (D.N3 e) (k++[e])
def Jp.due(S:Jp):Jp:=jj S.ev S.dv S.Le
structure Jp.Wf(S:Jp):Prop where
 ev:S.ev.length+S.Le.length<=200
 wf:∀e∈S.ev,e.Wf
 hwf:∀e∈S.Le,e.Wf
structure Afu(h:Ab)(D V M qc qh:Nat)(cs hs:EV)(ms:List (EV × EV))(S:Jp)(F G:Nat->Prop):Prop where
 Da:h.get D=some (.cells [.ptr V 0,cs,hs,.map M] 118)
 map:h.get M=some (.map ms)
 marks:Alf ms
 Gh:Ce h cs qc 34 68 S.ev.length (S.ev.map Jj.cells).flatten
 Apc:Ce h hs qh 34 68 S.Le.length (S.Le.map Jj.cells).flatten
 dev:Hg h V S.dv F
 sub:(∀i,F i->G i)/\G D/\G M/\(0<S.ev.length->G qc)/\(0<S.Le.length->G qh)
 apart:¬F D/\¬F M/\(0<S.ev.length->¬F qc)/\(0<S.Le.length->¬F qh)/\(0<S.ev.length->0<S.Le.length->qc≠qh)
structure Fm(h:Ab)(D:Nat)(S:Jp)(G:Nat->Prop):Prop where
 lt:∀i,G i->i<h.next
 wf:S.Wf
 Mh:∃V M qc qh cs hs ms F,Afu h D V M qc qh cs hs ms S F G
theorem Afu.mono{D M:Nat}{S:Jp}{f:Nat->Prop}(a:Afu h D V M qc qh cs hs ms S F G)(s:∀i,G i->f i):Afu h D V M qc qh cs hs ms S F f:=
 ⟨a.Da,a.map,a.marks,a.Gh,a.Apc,a.dev,⟨fun i hi=>s i (a.sub.1 i hi),s _ a.sub.2.1,s _ a.sub.2.2.1,fun y=>s _ (a.sub.2.2.2.1 y),fun y=>s _ (a.sub.2.2.2.2 y)⟩,a.apart⟩
theorem Fm.mono{D:Nat}{S:Jp}{f:Nat->Prop}(d:Fm h D S G)(s:∀i,G i->f i)(l:∀i,f i->i<h.next):Fm h D S f:=by
 obtain⟨V,M,qc,qh,cs,hs,ms,F,a⟩:=d.Mh;exact⟨l,d.wf,V,M,qc,qh,cs,hs,ms,F,a.mono s⟩
theorem Fm.grow{D:Nat}{S:Jp}(d:Fm h' D S G)(l:∀i,G i->i<h.next)(n:h.next<=h'.next):Fm h' D S (Bi G h h'):=d.mono (fun _=>.inl) (Bi.lt l n)
theorem Fm.u7{D:Nat}{S:Jp}(d:Fm h2 D S (Bi (Bi G h h1) h1 h2))(a:h.next<=h1.next)(b:h1.next<=h2.next)(l:∀i,G i->i<h.next):Fm h2 D S (Bi G h h2):=
 d.mono (fun _=>Bi.trans a b) (Bi.lt l (bS a b))
theorem Afu.frame{D M:Nat}{S:Jp}(a:Afu h D V M qc qh cs hs ms S F G)(n:h.next<=h'.next)(e:∀i,G i->h'.get i=h.get i):Afu h' D V M qc qh cs hs ms S F G:=
 ⟨by rw[e _ a.sub.2.1];exact a.Da,by rw[e _ a.sub.2.2.1];exact a.map,a.marks,a.Gh.frame fun y=>e _ (a.sub.2.2.2.1 y),a.Apc.frame fun y=>e _ (a.sub.2.2.2.2 y),a.dev.frame n fun i hi=>e i (a.sub.1 i hi),a.sub,a.apart⟩
theorem Fm.frame{D:Nat}{S:Jp}(d:Fm h D S G)(n:h.next<=h'.next)(e:∀i,G i->h'.get i=h.get i):Fm h' D S G:=by
 obtain⟨V,M,qc,qh,cs,hs,ms,F,a⟩:=d.Mh;exact⟨fun i hi=>aL (d.lt i hi) n,d.wf,V,M,qc,qh,cs,hs,ms,F,a.frame n e⟩
theorem Fm.chg{D:Nat}{S:Jp}{T:Nat->Prop}(d:Fm h D S G)(c:As T h h')(n:∀i,G i->¬T i):Fm h' D S G:=d.frame c.next fun i hi=>c.get i (d.lt i hi) (n i hi)
theorem Fm.ext{D:Nat}{S:Jp}(d:Fm h D S G)(c:Ext h h'):Fm h' D S G:=d.chg c fun _ _=>id
theorem Afu.put{D M:Nat}{S:Jp}(a:Afu h D V M qc qh cs hs ms S F G)(hb:HB h){dv:Dv}(d:Hg h' V dv (Bi F h h'))(c:As F h h'):
 Afu h' D V M qc qh cs hs ms { S with dv:=dv } (Bi F h h') (Bi G h h'):=by
 have lq:∀{s q n l},Ce h s q 34 68 n l->0<n->q<h.next:=fun r y=>hb _ _ (r.block y)
 have f:∀{i},¬F i->i<h.next->¬Bi F h h' i:=fun y l z=>by
  rcases z with z|z
  ·exact y z
  ·omega
 refine⟨c.at hb a.Da a.apart.1,c.at hb a.map a.apart.2.1,a.marks,a.Gh.frame fun y=>c.get _ (lq a.Gh y) (a.apart.2.2.1 y),a.Apc.frame fun y=>c.get _ (lq a.Apc y) (a.apart.2.2.2.1 y),d,⟨fun i hi=>?_,.inl a.sub.2.1,.inl a.sub.2.2.1,fun y=>.inl (a.sub.2.2.2.1 y),fun y=>.inl (a.sub.2.2.2.2 y)⟩,⟨f a.apart.1 (hb _ _ a.Da),f a.apart.2.1 (hb _ _ a.map),fun y=>f (a.apart.2.2.1 y) (lq a.Gh y),fun y=>f (a.apart.2.2.2.1 y) (lq a.Apc y),a.apart.2.2.2.2⟩⟩;rcases hi with hi|hi
 ·exact .inl (a.sub.1 i hi)
 ·exact .inr hi
theorem Fm.put{D M:Nat}{S:Jp}(s:Fm h D S G)(a:Afu h D V M qc qh cs hs ms S F G)(hb:HB h){dv:Dv}(d:Hg h' V dv (Bi F h h'))(c:As F h h'):
 Fm h' D { S with dv:=dv } (Bi G h h')/\As G h h':=
 ⟨⟨Bi.lt s.lt c.next,⟨s.wf.ev,s.wf.wf,s.wf.hwf⟩,V,M,qc,qh,cs,hs,ms,_,a.put hb d c⟩,c.mono a.sub.1⟩
theorem Afu.rD{D M:Nat}{S:Jp}(a:Afu h D V M qc qh cs hs ms S F G)(hm:Alf iS):
 Afu (h.put M (.map iS)) D V M qc qh cs hs iS S F G:=by
 refine⟨?_,Ae _ _ _,hm,a.Gh.frame fun y=>Af _ ?_,a.Apc.frame fun y=>Af _ ?_,a.dev.frame (aD _) fun i hi=>Af _ fun y=>?_,a.sub,a.apart⟩
 ·rw[Af _ (Bf a.map a.Da (by simp))];exact a.Da
 ·exact Bf a.map (a.Gh.block y) (by simp)
 ·exact Bf a.map (a.Apc.block y) (by simp)
 ·rw[<-y]at hi;exact a.apart.2.1 hi
theorem Fm.rD{D M:Nat}{S:Jp}(s:Fm h D S G)(a:Afu h D V M qc qh cs hs ms S F G)(hb:HB h)(hm:Alf iS):
 Fm (h.put M (.map iS)) D S G/\As G h (h.put M (.map iS))/\HB (h.put M (.map iS)):=by
 have f:=hb _ _ a.map;exact⟨⟨s.lt,s.wf,V,M,qc,qh,cs,hs,iS,F,a.rD hm⟩,(As.refl h).Aq (.inl a.sub.2.2.1) f _,hb.put f _⟩
theorem UJ{D M:Nat}{S:Jp}(a:Afu h D V M qc qh cs hs ms S F G):Eu K (.ptr D 0) h=some (.ptr V 0,h):=by simp only[Eu,Aa,Cx a.Da rfl]
def RD(disp:Nat->Option FT)(K d:Nat)(S:Jp):Prop:=∀(h:Ab) (D:Nat) (G:Nat->Prop),Fm h D S G->HB h->Ok (Ag TT disp K d false 91 [.ptr D 0] h) fun v h'=>Fm h' D S.due (Bi G h h')/\As G h h'/\HB h'
variable {S:Jp}
def Jp.begin(S:Jp)(i:Int):Jp:=if S.dv.has i=true then S.due else S
def lu(disp:Nat->Option FT)(K:Nat)(S:Jp):Prop:=∀d,12<=d->RD disp K d S
theorem rJ(H:Cf disp){d:Nat}(hd:13<=d){D:Nat}(f:lu disp K S)(s:Fm h D S G)(hb:HB h)(i:Int):
 Ok (Ag TT disp K d false 139 [.ptr D 0,I i] h) fun v h'=>Fm h' D (S.begin i) (Bi G h h')/\As G h h'/\HB h':=by
 obtain⟨e,rfl⟩:=fc d;rw[Apb H a_];obtain⟨V,M,qc,qh,cs,B,ms,F,a⟩:=s.Mh;obtain⟨zl,z,q,b,_⟩:=a.dev.Mh;have fin:Ok (some (.tuple [],h)) fun(_:EV) h'=>Fm h' D S (Bi G h h')/\As G h h'/\HB h':=.ret ⟨s.grow s.lt (aD _),As.refl _,hb⟩
 unfold Jp.begin;simp only[IQ,I,Ac,Aa];by_cases h0:0<=i
 ·have A:=QV (K:=K) b
  simp only[I]at A;simp only[h0,aB,Aa,Cx a.Da rfl,A,Ac,Ub];by_cases h1:i<S.dv.n
  ·have j:S.dv.has i=true:=aR ⟨h0,h1⟩
   simp only[h1,aB,Aa];rw[j,aK rfl];refine(f e a_ h D G s hb).Ao ?_;intro v h' p;exact .ret p
  ·have j:S.dv.has i=false:=aU fun y=>h1 y.2
   simp only[h1,aA,Aa];rw[j,aH (by simp)];exact fin
 ·have j:S.dv.has i=false:=aU fun y=>h0 y.1
  simp only[h0,aA,Aa,Ub];rw[j,aH (by simp)];exact fin
def Jp.append(S:Jp)(i:Int)(x:List EV):Jp × Int × Int:=({ S.begin i with dv:=((S.begin i).dv.append i x).1 },((S.begin i).dv.append i x).2)
theorem zJ(H:Cf disp)(hK:1000<K){d:Nat}(hd:14<=d){D:Nat}(L:lu disp K S)(s:Fm h D S G)(hb:HB h)(i:Int)(hx:x.length=64)(hu:U8 x):
 Ok (Ag TT disp K d false 177 [.ptr D 0,I i,.agg x] h) fun v h'=>v=.tuple [I (S.append i x).2.1,I (S.append i x).2.2]/\Fm h' D (S.append i x).1 (Bi G h h')/\As G h h'/\HB h':=by
 obtain⟨e,rfl⟩:=fc d;rw[Am6 H a_];simp only[KI,Aa];have B:Ext h (h.new (.cells x 32)):=As.new _ _;have O:(h.new (.cells x 32)).get h.next=some (.cells x 32):=Ad _ _
 have C:HB (h.new (.cells x 32)):=hb.new _;have s1:=s.ext B;have n1:(h.new (.cells x 32)).next=h.next+1:=rfl
 generalize h.new (.cells x 32)=h1 at B O C s1 n1⊢;refine(rJ (K:=K) H a_ L s1 C i).Ao ?_;rintro _ h2 ⟨s2,c2,f⟩;have nx:¬G h.next:=fun y=>bX _ (s.lt _ y)
 have O:=c2.at C O nx;have E:As G h h2:=(Ext.to B).trans c2;have s2:Fm h2 D (S.begin i) (Bi G h1 h2):=s2;unfold Jp.append;generalize S.begin i=T at s2⊢;obtain⟨V,M,qc,qh,cs,X,ms,F,a⟩:=s2.Mh;have lD:=f _ _ a.Da;have l5:=f _ _ O;simp only[Aa,Au,Cp lD,Cx a.Da rfl,Cp l5,Cz O rfl,Ak hx];refine Ok.bC (S:=F) (A08 (K:=K) a.dev.lift (Dj f) hK i hx hu) (fun _ _ p=>p.2.2.1) ?_;rintro _ h3 h4 s' ⟨rfl,d3,_,Y⟩ sm c4 _;have J:=sm.hb Y;have d4:Hg h4 V (T.dv.append i x).1 (Bi F h2 h4):=by
  have:=d3.frame (h':=h4) (by rw[sm.next];exact aD _) fun j _=>sm.get j
  refine this.mono (fun j hj=>?_) (Bi.lt a.dev.lt c4.next);rcases hj with y|y
  ·exact .inl y
  ·exact .inr ⟨y.1,by rw[sm.next];exact y.2⟩
 have a4:=a.put f d4 c4;obtain⟨U,A⟩:=s2.put a f d4 c4;have W:As G h h4:=by
  refine E.then A fun j hj hl=>?_
  rcases hj with y|y
  ·exact y
  ·have:=B.next;omega
 have U:Fm h4 D { T with dv:=(T.dv.append i x).1 } (Bi G h h4):=U.mono (fun j hj=>by
  rcases hj with(y|y)|y
  ·exact .inl y
  ·have:=B.next;have:=A.next;exact .inr ⟨a_,a_⟩
  ·have:=E.next;exact .inr ⟨a_,y.2⟩) (Bi.lt s.lt W.next)
 simp only[Aa,I,Ac];by_cases hz:(T.dv.append i x).2.2=0
 ·simp only[hz,aB,Aa,Cx a4.Da rfl]
  rw[Ax (l:=[I i,I (T.dv.append i x).2.1]) rfl];obtain⟨iS,e1,aa⟩:=RC a4.map a4.marks i (T.dv.append i x).2.1;unfold kp at e1;rw[e1,Ar];simp only[Sl,dr];obtain⟨V',M',aq,au,aw,af,ag,F',a5⟩:=U.Mh;have lM:=J _ _ a4.map;have a6:=a4.rD aa;have gM:Bi G h h4 M:=by
   rcases a.sub.2.2.1 with y|y
   ·exact .inl y
   ·have:=B.next;have:=A.next;exact .inr ⟨a_,a_⟩
  have c5:As (Bi G h h4) h4 (h4.put M (.map iS)):=(As.refl h4).Aq (.inl gM) lM _;refine .ret ⟨rfl,⟨Bi.lt s.lt (W.grow c5).next,U.wf,V,M,qc,qh,cs,X,iS,_,a6.mono fun j hj=>?_⟩,W.grow c5,J.put lM _⟩;show Bi G h h4 j;rcases hj with(y|y)|y
  ·exact .inl y
  ·have:=B.next;have:=A.next;exact .inr ⟨a_,a_⟩
  ·have:=E.next;exact .inr ⟨a_,y.2⟩
 ·simp only[hz,aA,Aa,Sl]
  exact .ret ⟨rfl,U,W,J⟩
def Jp.read(S:Jp)(i off:Int):Jp × List EV × Int:=({ S.begin i with dv:=(S.begin i).dv.begin i },(S.begin i).dv.read i off)
theorem A6n(H:Cf disp){d:Nat}(hd:14<=d){D:Nat}(E:lu disp K S)(s:Fm h D S G)(hb:HB h)(i off:Int):
 Ok (Ag TT disp K d false 162 [.ptr D 0,I i,I off] h) fun v h'=>v=.tuple [.agg (S.read i off).2.1,I (S.read i off).2.2]/\(S.read i off).2.1.length=64/\Fm h' D (S.read i off).1 (Bi G h h')/\As G h h'/\HB h':=by
 obtain⟨e,rfl⟩:=fc d;rw[Aqt H a_];simp only[KH,Aa];have J:Ext h (h.new (.cells (List.replicate 64 (.int .u8 0)) 32)):=As.new _ _;have B:(h.new (.cells (List.replicate 64 (.int .u8 0)) 32)).get h.next=some (.cells Sf 32):=Ad _ _
 have f:HB (h.new (.cells (List.replicate 64 (.int .u8 0)) 32)):=hb.new _;have s1:=s.ext J;generalize h.new (.cells (List.replicate 64 (.int .u8 0)) 32)=h1 at J B f s1⊢;refine(rJ (K:=K) H a_ E s1 f i).Ao ?_;rintro _ h2 ⟨s2,c2,A⟩;have nx:¬G h.next:=fun y=>bX _ (s.lt _ y)
 have B:=c2.at f B nx;have l6:h.next<h1.next:=by
  have:=A _ _ B;rcases dC h.next h1.next with y|y
  ·exact y
  ·exact absurd (f _ _ (show h1.get h.next=some (.cells Sf 32) by assumption)) a_
 have L:As G h h2:=(Ext.to J).trans c2;unfold Jp.read;generalize S.begin i=T at s2⊢;obtain⟨V,M,qc,qh,cs,Y,ms,F,a⟩:=s2.Mh;simp only[Aa,Cx a.Da rfl];refine(A87 (K:=K) a.dev A i off).Ao ?_;rintro _ W ⟨rfl,hlen,d3,c3,O⟩;obtain⟨s3,C⟩:=s2.put a A d3 c3;have X:¬Bi G h1 h2 h.next:=by
  rintro(y|y)
  ·exact nx y
  ·omega
 have B:=C.at A B X;have U:=O _ _ B;simp only[Aa];refine Ok.st (T.dv.read i off).1 B rfl (by rw[show EV.cells (.agg (T.dv.read i off).1)=(T.dv.read i off).1 from rfl,Bb,hlen]) (Bn (by rw[Kg];exact hlen.symm)) ?_;rw[Fi (Ae _ _ _) kg.1 kg.2 hlen];have cc:As G h W:=by
  refine L.then C fun j hj hl=>?_
  rcases hj with y|y
  ·exact y
  ·have:=J.next;omega
 have c4:As G h (W.put h.next (.cells (T.dv.read i off).1 32)):=cc.Aq (.inr (aD _)) U _;refine .ret ⟨rfl,hlen,?_,c4,O.put U _⟩;refine Fm.mono (s3.frame (h':=W.put h.next (.cells (T.dv.read i off).1 32)) (aD _) fun j hj=>Af _ fun y=>?_) (fun j hj=>?_) (Bi.lt s.lt c4.next)
 ·subst y
  rcases hj with y|y
  ·exact X y
  ·have:=c2.next;omega
 ·show Bi G h W j
  rcases hj with(y|y)|y
  ·exact .inl y
  ·have:=J.next;have:=C.next;exact .inr ⟨a_,a_⟩
  ·have:=L.next;exact .inr ⟨a_,y.2⟩
def Jp.flush(S:Jp):Jp × Int:=({ S.due with dv:=S.due.dv.flush.1 },S.due.dv.flush.2)
theorem zI(H:Cf disp)(hK:1000<K){d:Nat}(hd:14<=d){D:Nat}(f:lu disp K S)(s:Fm h D S G)(hb:HB h):
 Ok (Ag TT disp K d false 52 [.ptr D 0] h) fun v h'=>v=I S.flush.2/\Fm h' D S.flush.1 (Bi G h h')/\As G h h'/\HB h':=by
 obtain⟨e,rfl⟩:=fc d;rw[Anr H a_];simp only[J',dr];refine(f e a_ h D G s hb).Ao ?_;rintro _ h2 ⟨s2,c2,j⟩;unfold Jp.flush;generalize S.due=T at s2⊢;obtain⟨V,M,qc,qh,cs,B,ms,F,a⟩:=s2.Mh;simp only[Aa,Cx a.Da rfl];refine(A45 (K:=K) a.dev j hK).Ao ?_;rintro _ E ⟨rfl,d3,c3,A⟩;obtain⟨C,y⟩:=s2.put a j d3 c3;exact .ret ⟨rfl,C.u7 c2.next y.next s.lt,c2.grow y,A⟩
def Jp.finish(S:Jp)(i:Int):Jp × Int:=({ S.begin i with dv:=((S.begin i).dv.finish i).1 },((S.begin i).dv.finish i).2)
theorem zH(H:Cf disp){d:Nat}(hd:14<=d){D:Nat}(f:lu disp K S)(s:Fm h D S G)(hb:HB h)(i:Int):
 Ok (Ag TT disp K d false 179 [.ptr D 0,I i] h) fun v h'=>v=I (S.finish i).2/\Fm h' D (S.finish i).1 (Bi G h h')/\As G h h'/\HB h':=by
 obtain⟨e,rfl⟩:=fc d;rw[Ane H a_];simp only[KJ,dr];refine(rJ (K:=K) H a_ f s hb i).Ao ?_;rintro _ h2 ⟨s2,c2,j⟩;unfold Jp.finish;generalize S.begin i=T at s2⊢;obtain⟨V,M,qc,qh,cs,B,ms,F,a⟩:=s2.Mh;simp only[Aa,Cx a.Da rfl];refine(A0z (K:=K) a.dev j i).Ao ?_;rintro _ E ⟨rfl,d3,c3,A⟩;obtain⟨C,y⟩:=s2.put a j d3 c3;exact .ret ⟨rfl,C.u7 c2.next y.next s.lt,c2.grow y,A⟩
theorem SR {D:Nat}(z:Int):∀(m i:Nat) (h:Ab),S.dv.size-i<m->Fm h D S G->HB h ->
 Ok (Js K m (.ptr D 0) (I z) (I i) h) fun v h'=>Fm h' D S G/\As G h h'/\HB h':=by
 intro m;induction m with
 | zero=>intro i h hm;omega
 | succ m C=>
  intro i h hm s hb;obtain⟨V,M,qc,qh,cs,E,ms,F,a⟩:=s.Mh;obtain⟨zl,O,q,b,_⟩:=a.dev.Mh;have f:=QW (K:=K) b;have J:S.dv.size<=64:=a.dev.wf.size;simp only[I]at f;simp only[Js,Aa,Cx a.Da rfl,f,I,Ac];by_cases j:(i:Int)<S.dv.size
  ·simp only[j,aB,Aa,HI,Cx a.Da rfl]
   rw[Ax (l:=[I z,I i]) rfl];obtain⟨iS,e1,y⟩:=RC a.map a.marks z i;unfold kp at e1;rw[e1,Ar];simp only[HH,I,Ac];rw[Cn];obtain⟨s2,c2,A⟩:=s.rD a hb y;refine(C (i+1) _ a_ s2 A).mono ?_;rintro v h' ⟨L,c3,B⟩;exact⟨L,c2.trans c3,B⟩
  ·simp only[j,aA,Aa]
   exact .ret ⟨s,As.refl _,hb⟩
end
end Go.Ev
