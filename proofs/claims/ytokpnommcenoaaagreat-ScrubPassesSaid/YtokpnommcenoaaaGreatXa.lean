import Derived.Test.YtokpnommcenoaaaGreatWa
import Derived.Test.YtokpnommcenoaaaGreatDa
import Derived.Test.YtokpnommcenoaaaGreatDc
set_option linter.all false
namespace Go.Ev
open Go.Proofs
set_option maxRecDepth 100000
variable {a b x op cnt zones:Int}{k:Ab->List Nat->R}{ex:Nat->Ab->List Nat->R}{S:Nat->Prop}{h h' h0:Ab}{D K V d e i n t b2 b3 b4 d0 l0 ql zl cap:Nat}{o:Ca}{T:Hj}{down:Bool}{ps:Nat->List Int}{v F7 happened:EV}{marks:List (EV × EV)}{xs:List Int}{tm tm1:Bb}{disp:Nat->Option FT}
section
noncomputable def Av(T:Hj)(g n i:Nat)(tm:Bb)(st:LoopState)(p:Option Code)(d:Nat):Ca:=.loop st p g n tm (Ek T g i).2.1 (Ek T g i).2.2.1 (Ek T g i).2.2.2 d
noncomputable def Ce(T:Hj)(g n i:Nat)(tm:Bb)(h:Ab):Ab:=(h.new (.deferred true)).new (Av T g n i tm .ready none h.next)
section
variable{g l:Nat}{st:LoopState}{p:Option Code}{Q:EV->Ab->Prop}
theorem Hp:(Ce T g n i tm h).get (h.next+1)=some (Av T g n i tm .ready none h.next):=Ad _ _
theorem Jd:(Ce T g n i tm h).get h.next=some (.deferred true):=by
 unfold Ce;rw[Az _ (aR _)];exact Ad _ _
theorem Hh:Ext h (Ce T g n i tm h):=(As.new _ _).Da _
theorem A2h:(Ce T g n i tm h).next=h.next+2:=rfl
theorem Wx {kk:Ab->R}(f:h.get l=some (Av T g n i tm .ready p d)):Er l h kk=kk (h.put l (Av T g n i tm .busy p d)):=by
 unfold Er;rw[f];rfl
theorem Nj {b:Bool}{st':LoopState}{j:Option Code}(f:h.get l=some (Av T g n i tm st p d)):Wb l b st' j h=some (.bool b,h.put l (Av T g n i tm st' j d)):=by
 unfold Wb;rw[f];rfl
theorem Ok.range {c:Ai}{q:Nat}{f:List EV}{ds:List Nat}{ret:Ab->List Nat->R}
 (hc:Ok (c q (.Vd (h.next+1)::f) (Ce T g n i tm h)) fun _ h'=>
  (h'.get (h.next+1)=some (Av T g n i tm .ready none h.next)/\Ok (k (h'.put (h.next+1) (Av T g n i tm .exhausted none h.next)) (h.next::ds)) Q) \/
  (h'.get (h.next+1)=some (Av T g n i tm .done (some .ret) h.next)/\Ok (ret (h'.put (h.next+1) (Av T g n i tm .exhausted (some .ret) h.next)) (h.next::ds)) Q)) :
 Ok (Us c T g n i (.func q [] f) tm h ds k ex ret) Q:=by
 obtain⟨v,h',e,j⟩:=hc;have:Us c T g n i (.func q [] f) tm h ds k ex ret=Bad (h.next+1) (c q (.Vd (h.next+1)::f) (Ce T g n i tm h)) (fun h'=>k h' (h.next::ds)) (fun id h'=>ex id h' (h.next::ds)) (fun h'=>ret h' (h.next::ds)):=rfl;rw[this,e];unfold Bad;simp only;rcases j with⟨a,b⟩|⟨a,b⟩
 ·rw[a];exact b
 ·rw[a];exact b
theorem Ok.unwind:∀{ds:List Nat} {h:Ab} {k:Ab->R},ds.Nodup->(∀d∈ds,h.get d=some (.deferred true))->HB h->(∀h',As (fun i=>i∈ds) h h'->h'.next=h.next->Ok (k h') Q)->Ok (Fi ds h k) Q
 | [],h,k,_,_,_,j=>j h (As.refl _) rfl
 | d::ds,h,k,hn,hd,hb,j=>by
  obtain⟨A,B⟩:=cV.1 hn;have f:=hd d aV;have ld:=hb _ _ f;have e:Fi (d::ds) h k=Fi ds (h.put d (.deferred false)) k:=by
   show(match h.get d with|some (.deferred true)=>Fi ds (h.put d (.deferred false)) k|_=>none)=_;rw[f]
  rw[e];refine Ok.unwind B (fun x C=>?_) (hb.put ld _) fun h' c n=>j h' ?_ (by rw[n];rfl)
  ·rw[Ae _ (fun y=>A (by rw[y];exact C))];exact hd x (aT _ C)
  ·exact((As.refl h).Ao (S:=fun i=>i∈d::ds) (.inl aV) ld _).trans (c.mono fun i E=>aT _ E)
end
structure Kp(S:Nat->Prop)(h0 h:Ab):Prop where
 chg:As S h0 h
 same:∀i,i<h0.next->h.get i=h0.get i
theorem Kp.refl(h:Ab):Kp S h h:=⟨As.refl _,fun _ _=>rfl⟩
theorem Ext.kp(x:Ext h0 h):Kp S h0 h:=⟨Ext.to x,fun i f=>x.get i f id⟩
theorem Kp.trans{a b c:Ab}(x:Kp S a b)(y:Kp S b c):Kp S a c:=⟨x.chg.trans y.chg,fun i f=>by rw[y.same i (aN f x.chg.next),x.same i f]⟩
theorem Kp.Ao(x:Kp S h0 h)(f:h0.next<=i)(hn:i<h.next)(o:Ca):Kp S h0 (h.put i o):=
 ⟨x.chg.Ao (.inr f) hn o,fun j hj=>by rw[Ae _];exact x.same j hj⟩
theorem Kp.at(x:Kp S h0 h)(hb:HB h0)(g:h0.get i=some o):h.get i=some o:=by rw[x.same i (hb _ _ g)];exact g
theorem Kp.A64 {T:Nat->Prop}{a b c:Ab}(x:Kp S a b)(y:As T b c)(st:∀i,T i->a.next<=i):Kp S a c:=
 ⟨x.chg.then y fun i f A=>by have:=st i f;omega,fun i f=>by rw[y.get i (aN f x.chg.next) fun j=>by have:=st i j;omega,x.same i f]⟩
end
section
structure Gm where
 D:Int
 Z:Int
 S:Int
 B:Int
 P:Int
 O:Int
def gL(g:Gm):List EV:=[I g.D,I g.Z,I g.S,I g.B,I g.P,I g.O]
def gV(g:Gm):EV:=.agg (gL g)
def Gm.parts(g:Gm):Int:=1+(g.B+1)/2
def Gm.Al6(g:Gm):Int:=g.D*g.P+4
def Gm.least(g:Gm):Int:=min ((g.D-1)*(g.Z-g.P-2)-g.Al6+1) (g.D*(g.Z-g.P-2)-2*g.Al6+1)
def Gm.segments(g:Gm):Int:=g.least/2-1-g.D*g.P
def wi(n a b:Int):Bool:=decide (a<=n)&&decide (n<=b)
theorem On {n:Int}:wi n a b=true↔a<=n/\n<=b:=by simp[wi]
def smB(g:Gm):Bool:=wi g.D 3 8&&wi g.Z 1 64&&wi g.S 4 64&&wi g.B 1 256&&wi g.P 0 4&&wi g.O 4 64
def rtB(g:Gm):Bool:=smB g&&(decide (g.parts<=g.S)&&decide (2*g.B<=g.S*g.segments))
structure Sm(g:Gm):Prop where
 d0:3<=g.D
 d1:g.D<=8
 z0:1<=g.Z
 z1:g.Z<=64
 s0:4<=g.S
 s1:g.S<=64
 b0:1<=g.B
 b1:g.B<=256
 p0:0<=g.P
 p1:g.P<=4
 o0:4<=g.O
 o1:g.O<=64
theorem Vz {g:Gm}(h:smB g=true):Sm g:=by
 simp only[smB,bL,On]at h;exact⟨h.1.1.1.1.1.1,h.1.1.1.1.1.2,h.1.1.1.1.2.1,h.1.1.1.1.2.2,h.1.1.1.2.1,h.1.1.1.2.2,h.1.1.2.1,h.1.1.2.2,h.1.2.1,h.1.2.2,h.2.1,h.2.2⟩
theorem Uy {g:Gm}(h:rtB g=true):Sm g:=Vz (by unfold rtB at h;exact((bL _ _).mp h).1)
theorem Oi {A B:Int}(h0:0<=a)(f:a<=A)(h2:0<=b)(j:b<=B):0<=a*b/\a*b<=A*B:=
 ⟨Int.mul_nonneg h0 h2,Int.mul_le_mul f j h2 (Int.le_trans h0 f)⟩
theorem A0d {A B:Int}(h0:0<=a)(f:a<=A)(h2 : -B<=b)(j:b<=B)(y:0<=B): -(A*B)<=a*b/\a*b<=A*B:=by
 have e1:a*b<=a*B:=eA j h0;have e2:a*B<=A*B:=Int.mul_le_mul_of_nonneg_right f y;have e3:a*(-B)<=a*b:=eA h2 h0;rw[Int.mul_neg]at e3;omega
theorem Bu5{k:EV->R}:Ae8 (bin T .shr t) (.int .i64 a) (.int .u64 1) k=k (.int .i64 (a/2)):=by
 cases a with
 | ofNat a=>
  show k (.int .i64 (.ofNat (Nat.shiftRight a 1)))=_;rw[show Nat.shiftRight a 1=a/2 from Nat.shiftRight_succ a 0];rfl
 | negSucc a=>
  show k (.int .i64 ((Int.negSucc a).fdiv (.ofNat 2)))=_;rw[fH _ (by decide)];rfl
theorem Brb(a b:Int):ltB a b=decide (a<b):=by rw[<-Beu,Avl]
theorem min2{j:Array TypeId}:builtin T .min j [.int .i64 a,.int .i64 b] h=some (.int .i64 (min a b),h):=by
 simp only[builtin,Ac2,Bc,Brb];rw[Bqf];by_cases f:b<a
 ·rw[aQ f,Int.min_eq_right (by omega)]
 ·rw[aM f,Int.min_eq_left (by omega)]
theorem Yz(n a b:Int)(h:Ab):Jk K (I n) (I a) (I b) h=some (.bool (wi n a b),h):=by
 simp only[Jk,Apt,I,Ac,Bsr];by_cases f:a<=n
 ·simp only[f,aB,Ak,dz,A0t,wi,bD]
 ·simp only[f,aA,Bc,dz,A0t,wi,ak]
theorem A3v(g:Gm)(h:Ab):Vw K (gV g) h=some (.bool (smB g),h.new (.cells (gL g) 23)):=by
 simp only[Vw,gV,Aa];have f:(h.new (.cells (gL g) 23)).get h.next=some (.cells (gL g) 23):=Ad _ _
 generalize h.new (.cells (gL g) 23)=j at f⊢;have w:=fun n a b=>Yz (K:=K) n a b j
 simp only[I]at w;simp only[Aa,C0 f rfl,gL,I,w,Ac];unfold smB;cases wi g.D 3 8 with
 | false=>simp only[Aa,Ac,Gy,G1,Gw,Gx,Gz,ak]
 | true=>
 simp only[Aa,C0 f rfl,gL,I,w,Ac,Gy];cases wi g.Z 1 64 with
 | false=>simp only[Aa,Ac,Gy,G1,Gw,Gx,Gz,ak,eD]
 | true=>
 simp only[Aa,C0 f rfl,gL,I,w,Ac,G1];cases wi g.S 4 64 with
 | false=>simp only[Aa,Ac,Gy,G1,Gw,Gx,Gz,ak,eD]
 | true=>
 simp only[Aa,C0 f rfl,gL,I,w,Ac,Gw];cases wi g.B 1 256 with
 | false=>simp only[Aa,Ac,Gy,G1,Gw,Gx,Gz,ak,eD]
 | true=>
 simp only[Aa,C0 f rfl,gL,I,w,Ac,Gx];cases wi g.P 0 4 with
 | false=>simp only[Aa,Ac,Gy,G1,Gw,Gx,Gz,ak,eD]
 | true=>
 simp only[Aa,C0 f rfl,gL,I,w,Ac,Gz,bD]
theorem Abb {g:Gm}(s:Sm g)(h:Ab):Ii K (gV g) h=some (I g.parts,h.new (.cells (gL g) 23)):=by
 have:=s.b0;have:=s.b1;simp only[Ii,gV,Aa];have f:(h.new (.cells (gL g) 23)).get h.next=some (.cells (gL g) 23):=Ad _ _
 generalize h.new (.cells (gL g) 23)=j at f⊢;simp only[Aa,C0 f rfl,gL,I,Ac];rw[Ci (n:=g.B+2) (by omega) (by omega),Ci (n:=g.B+2-1) (by omega) (by omega),Bob (by omega) (by omega) (by omega)];simp only[Ac];rw[Ci];rw[show 1+(g.B+2-1)/2=g.parts by unfold Gm.parts;rw[show g.B+2-1=g.B+1 by omega]]
theorem Anz {g:Gm}(s:Sm g)(h:Ab):Nv K (gV g) h=some (I g.Al6,h.new (.cells (gL g) 23)):=by
 have:=s.d0;have:=s.d1;have:=s.p0;have:=s.p1;obtain⟨j,y⟩:=Oi (a:=g.D) (b:=g.P) (A:=8) (B:=4) (by omega) (by omega) (by omega) (by omega);simp only[Nv,gV,Aa];have f:(h.new (.cells (gL g) 23)).get h.next=some (.cells (gL g) 23):=Ad _ _
 generalize h.new (.cells (gL g) 23)=C at f⊢;simp only[Aa,C0 f rfl,gL,I,Ac];rw[Ci (n:=g.D*g.P) (by omega) (by omega),Ci];rfl
theorem N2 {g:Gm}(s:Sm g)(h:Ab):Dn K (gV g) h=some (I (g.D*g.Z),h.new (.cells (gL g) 23)):=by
 have:=s.d0;have:=s.d1;have:=s.z0;have:=s.z1;obtain⟨j,y⟩:=Oi (a:=g.D) (b:=g.Z) (A:=8) (B:=64) (by omega) (by omega) (by omega) (by omega);simp only[Dn,gV,Aa];have f:(h.new (.cells (gL g) 23)).get h.next=some (.cells (gL g) 23):=Ad _ _
 generalize h.new (.cells (gL g) 23)=C at f⊢;simp only[Aa,C0 f rfl,gL,I,Ac];rw[Ci (n:=g.D*g.Z) (by omega) (by omega)]
theorem Sm.Bk1 {g:Gm}(s:Sm g):(0<=g.D*g.P/\g.D*g.P<=32)/\(-640<=(g.D-1)*(g.Z-g.P-2)/\(g.D-1)*(g.Z-g.P-2)<=640)/\(-640<=g.D*(g.Z-g.P-2)/\g.D*(g.Z-g.P-2)<=640):=by
 have:=s.d0;have:=s.d1;have:=s.p0;have:=s.p1;have:=s.z0;have:=s.z1;obtain⟨a0,f⟩:=Oi (a:=g.D) (b:=g.P) (A:=8) (B:=4) (by omega) (by omega) (by omega) (by omega);obtain⟨b0,b1⟩:=A0d (a:=g.D-1) (b:=g.Z-g.P-2) (A:=10) (B:=64) (by omega) (by omega) (by omega) (by omega) (by omega);obtain⟨c0,c1⟩:=A0d (a:=g.D) (b:=g.Z-g.P-2) (A:=10) (B:=64) (by omega) (by omega) (by omega) (by omega) (by omega);omega
theorem Axu {g:Gm}(s:Sm g)(h:Ab):Ok (Qj K (gV g) h) fun v h'=>v=I g.segments/\Ext h h':=by
 obtain⟨⟨a0,J⟩,⟨b0,b1⟩,c0,c1⟩:=s.Bk1;have:=s.d0;have:=s.d1;have:=s.p0;have:=s.p1;have:=s.z0;have:=s.z1;simp only[Qj,gV,Aa];have j:(h.new (.cells (gL g) 23)).get h.next=some (.cells (gL g) 23):=Ad _ _
 have hn:h.next<(h.new (.cells (gL g) 23)).next:=aR _
 have y:Ext h (h.new (.cells (gL g) 23)):=As.new _ _;generalize h.new (.cells (gL g) 23)=B at j hn y⊢;simp only[Aa,Ar,Cg hn,C0 j rfl,Cz j rfl,Aj (show(gL g).length=6 from rfl),gL,I,Ac];rw[Ci (n:=g.Z-g.P) (by omega) (by omega),Ci (n:=g.Z-g.P-2) (by omega) (by omega)];refine Ok.bE (P:=fun v h2=>v=I g.Al6/\Ext B.lift h2) ⟨_,_,Anz s _,rfl,As.new _ _⟩ (fun _ _ p=>p.2) ?_;rintro _ h2 C ⟨rfl,_⟩ _ A;have f:C.get h.next=some (.cells (gL g) 23):=by rw[A.get _ hn id];exact j
 simp only[Aa,C0 f rfl,gL,I,Ac];unfold Gm.Al6;rw[Ci (n:=g.D-1) (by omega) (by omega),Ci (n:=(g.D-1)*(g.Z-g.P-2)) (by omega) (by omega),Ci (n:=(g.D-1)*(g.Z-g.P-2)-(g.D*g.P+4)) (by omega) (by omega),Ci (n:=(g.D-1)*(g.Z-g.P-2)-(g.D*g.P+4)+1) (by omega) (by omega),
  Ci (n:=g.D*(g.Z-g.P-2)) (by omega) (by omega),Ci (n:=2*(g.D*g.P+4)) (by omega) (by omega),Ci (n:=g.D*(g.Z-g.P-2)-2*(g.D*g.P+4)) (by omega) (by omega),Ci (n:=g.D*(g.Z-g.P-2)-2*(g.D*g.P+4)+1) (by omega) (by omega),
  min2,Aq,Bu5]
 simp only[Ac,Aa,C0 f rfl,gL,I];have E:g.least=min ((g.D-1)*(g.Z-g.P-2)-(g.D*g.P+4)+1) (g.D*(g.Z-g.P-2)-2*(g.D*g.P+4)+1):=rfl;rw[<-E];have F : -10000<=g.least:=by omega
 have G:g.least<=10000:=by omega
 rw[Ci (n:=g.least/2-1) (by omega) (by omega),Ci (n:=g.D*g.P) (by omega) (by omega),Ci (n:=g.least/2-1-g.D*g.P) (by omega) (by omega)];exact .ret ⟨rfl,y.trans A⟩
end
theorem Bnb {g:Gm}(s:Sm g): -2000<=g.segments/\g.segments<=2000:=by
 obtain⟨⟨a0,f⟩,⟨b0,b1⟩,c0,c1⟩:=s.Bk1;have j:g.least=min ((g.D-1)*(g.Z-g.P-2)-(g.D*g.P+4)+1) (g.D*(g.Z-g.P-2)-2*(g.D*g.P+4)+1):=rfl;have hs:g.segments=g.least/2-1-g.D*g.P:=rfl;omega
theorem Vr(g:Gm)(h:Ab):Ok (Mz K (gV g) h) fun v h'=>v=.bool (rtB g)/\Ext h h':=by
 simp only[Mz,gV,Aa];have y:(h.new (.cells (gL g) 23)).get h.next=some (.cells (gL g) 23):=Ad _ _
 have hn:h.next<(h.new (.cells (gL g) 23)).next:=aR _
 have E:Ext h (h.new (.cells (gL g) 23)):=As.new _ _;generalize h.new (.cells (gL g) 23)=L at y hn E⊢;simp only[Aa,Ar,Cg hn,C0 y rfl,Cz y rfl,Aj (show(gL g).length=6 from rfl)];refine Ok.bE (P:=fun v h2=>v=.bool (smB g)/\Ext L.lift h2) ⟨_,_,A3v g _,rfl,As.new _ _⟩ (fun _ _ p=>p.2) ?_;rintro _ h2 G ⟨rfl,_⟩ _ F;have C:G.get h.next=some (.cells (gL g) 23):=by rw[F.get _ hn id];exact y
 unfold rtB;cases hs:smB g with
 | false=>simp only[Aa,Ac,Qn,Lw,ak];exact .ret ⟨rfl,E.trans F⟩
 | true=>
 have s:=Vz hs;have:=s.b0;have:=s.b1;simp only[Aa,Ac,Ar,Cg hn,C0 C rfl,Cz C rfl,Aj (show(gL g).length=6 from rfl),bD];refine Ok.bE (P:=fun v h4=>v=I g.parts/\Ext G.lift h4) ⟨_,_,Abb s _,rfl,As.new _ _⟩ (fun _ _ p=>p.2) ?_;rintro _ h4 O ⟨rfl,_⟩ _ U;have f:=F.trans U;have j:O.get h.next=some (.cells (gL g) 23):=by rw[f.get _ hn id];exact y
 simp only[Aa,Ac,Ar,Cg hn,C0 j rfl,gL,I,Qn];by_cases J:g.parts<=g.S
 ·simp only[J,aB,Aa,Ar,Cg hn,C0 j rfl,Cz j rfl,Aj (show(gL g).length=6 from rfl),gL,I,Ac,bD]
  refine Ok.bE (Axu s _) (fun _ _ p=>p.2) ?_;rintro _ X Y ⟨rfl,_⟩ _ W;obtain⟨t0,t1⟩:=Bnb s;have:=s.s0;have:=s.s1;obtain⟨m0,m1⟩:=A0d (a:=g.S) (b:=g.segments) (A:=64) (B:=2000) (by omega) (by omega) (by omega) (by omega) (by omega);simp only[Ac,I,Lw,Aa];rw[Ci (n:=2*g.B) (by omega) (by omega),Ci (n:=g.S*g.segments) (by omega) (by omega)];exact .ret ⟨rfl,E.trans (f.trans W)⟩
 ·simp only[J,aA,Aa,Ac,Lw,ak]
  exact .ret ⟨rfl,E.trans f⟩
theorem Bqi {n:Int}(h0 : -100000<=n)(f:n<=100000)(h:Ab):O2 K (I n) h=some (I (n/2),h):=by
 simp only[O2,I,Ac,Aa];by_cases hn:n<0
 ·simp only[hn,aB,Aa,Ac]
  rw[Ci,Bob (by omega) (by omega) (by omega)];simp only[Blg];rw[Ci,show 0-(1-n)/2=n/2 by omega]
 ·simp only[hn,aA,Aa,X9]
  rw[Bob (by omega) (by omega) (by omega)]
theorem A9l {g:Gm}(s:Sm g){a:Nat}(j:h.get a=some (.cells (gL g) 114)):∀(m:Nat) (i:Int),0<=i->(g.B-i).toNat<m->i<=g.B+1->i%2=0 ->
 F1 K m (.ptr a 0) (I (1+i/2)) (I i) h=some (I g.parts,h):=by
 have:=s.b0;have:=s.b1;intro m;induction m with
 | zero=>intro i _ hm;omega
 | succ m y=>
  intro i C hm hle A;simp only[F1,Aa,Ac,C0 j rfl,gL,I];by_cases f:i<g.B
  ·simp only[f,aB,Aa,Ac,Uc,Ue]
   rw[Ci (n:=1+i/2+1) (by omega) (by omega),Ci (n:=i+2) (by omega) (by omega),show 1+i/2+1=1+(i+2)/2 by omega];exact y (i+2) (by omega) (by omega) (by omega) (by omega)
  ·simp only[f,aA,Aa,Uj]
   unfold Gm.parts;rw[show 1+i/2=1+(g.B+1)/2 by omega]
theorem Bjr {g:Gm}(s:Sm g)(hK:1000<K)(h:Ab):Lf K (gV g) h=some (I g.parts,h.new (.cells (gL g) 114)):=by
 have:=s.b0;have:=s.b1;simp only[Lf,gV,Aa];exact A9l s (Ad _ _) K 0 (by omega) (by omega) (by omega) (by omega)
theorem A8l {g:Gm}(s:Sm g)(h:Ab):Ok (Ik K (gV g) h) fun v h'=>v=I g.segments/\Ext h h':=by
 obtain⟨⟨a0,F⟩,⟨b0,b1⟩,c0,c1⟩:=s.Bk1;have:=s.d0;have:=s.d1;have:=s.p0;have:=s.p1;have:=s.z0;have:=s.z1;simp only[Ik,gV,Aa];have j:(h.new (.cells (gL g) 114)).get h.next=some (.cells (gL g) 114):=Ad _ _
 have hn:h.next<(h.new (.cells (gL g) 114)).next:=aR _
 have A:Ext h (h.new (.cells (gL g) 114)):=As.new _ _;generalize h.new (.cells (gL g) 114)=B at j hn A⊢;have G:g.least=min ((g.D-1)*(g.Z-g.P-2)-(g.D*g.P+4)+1) (g.D*(g.Z-g.P-2)-2*(g.D*g.P+4)+1):=rfl;have fin:∀n,n=g.least->Ok (Kh K (.ptr h.next 0) (I n) B) fun v h'=>v=I g.segments/\Ext h h':=by
  rintro _ rfl;simp only[Kh,Aa];refine Ok.bE (P:=fun v h2=>v=I (g.least/2)/\Ext B.lift h2) ⟨_,_,Bqi (by omega) (by omega) _,rfl,As.refl _⟩ (fun _ _ p=>p.2) ?_;rintro _ h2 E ⟨rfl,_⟩ _ C;have y:E.get h.next=some (.cells (gL g) 114):=by rw[C.get _ hn id];exact j
  simp only[Aa,Ar,Cg hn,C0 y rfl,gL,I,Ac];rw[Ci (n:=g.least/2-1) (by omega) (by omega),Ci (n:=g.D*g.P) (by omega) (by omega),Ci (n:=g.least/2-1-g.D*g.P) (by omega) (by omega)];exact .ret ⟨rfl,A.trans C⟩
 simp only[Aa,C0 j rfl,gL,I,Ac];rw[Ci (n:=g.Z-g.P) (by omega) (by omega),Ci (n:=g.Z-g.P-2) (by omega) (by omega),Ci (n:=g.D*g.P) (by omega) (by omega),Ci (n:=g.D*g.P+4) (by omega) (by omega),
  Ci (n:=g.D-1) (by omega) (by omega),Ci (n:=(g.D-1)*(g.Z-g.P-2)) (by omega) (by omega),Ci (n:=(g.D-1)*(g.Z-g.P-2)-(g.D*g.P+4)) (by omega) (by omega),Ci (n:=(g.D-1)*(g.Z-g.P-2)-(g.D*g.P+4)+1) (by omega) (by omega),
  Ci (n:=g.D*(g.Z-g.P-2)) (by omega) (by omega),Ci (n:=2*(g.D*g.P+4)) (by omega) (by omega),Ci (n:=g.D*(g.Z-g.P-2)-2*(g.D*g.P+4)) (by omega) (by omega),Ci (n:=g.D*(g.Z-g.P-2)-2*(g.D*g.P+4)+1) (by omega) (by omega)]
 by_cases f:g.D*(g.Z-g.P-2)-2*(g.D*g.P+4)+1<(g.D-1)*(g.Z-g.P-2)-(g.D*g.P+4)+1
 ·simp only[f,aB,Aa]
  exact fin _ (by omega)
 ·simp only[f,aA,Aa]
  exact fin _ (by omega)
theorem Bkh(g:Gm)(hK:1000<K)(h:Ab):Ok (H5 K (gV g) h) fun v h'=>v=.bool (rtB g)/\Ext h h':=by
 simp only[H5,gV,Aa];have j:(h.new (.cells (gL g) 114)).get h.next=some (.cells (gL g) 114):=Ad _ _
 have hn:h.next<(h.new (.cells (gL g) 114)).next:=aR _
 have C:Ext h (h.new (.cells (gL g) 114)):=As.new _ _;generalize h.new (.cells (gL g) 114)=W at j hn C⊢;have no:∀b,b=false->Ok (some (.bool false,W)) fun v h'=>v=.bool (b&&(decide (g.parts<=g.S)&&decide (2*g.B<=g.S*g.segments)))/\Ext h h':=by
  rintro _ rfl;exact .ret ⟨by rw[ak],C⟩
 unfold rtB;have f:∀{p:Prop} [Decidable p],¬p->(smB g=true->p)->smB g=false:=fun E hq=>by
  cases hb:smB g with
  | false=>rfl
  | true=>exact absurd (hq hb) E
 simp only[Aa,C0 j rfl,gL,I,Ac];by_cases c1:g.D<3
 ·simp only[c1,aB,Aa,Ac,Hw,Fu,Et,D8,Dp,C8,Cs,Cm,Ch,Bz,Bq]
  exact no _ (f (p:=¬g.D<3) (by simpa using c1) fun hb=>by have:=(Vz hb).d0;omega)
 simp only[c1,aA,Aa,Ac,C0 j rfl,gL,I,Hw];by_cases c2:8<g.D
 ·simp only[c2,aB,Aa,Ac,Fu,Et,D8,Dp,C8,Cs,Cm,Ch,Bz,Bq]
  exact no _ (f (p:=¬8<g.D) (by simpa using c2) fun hb=>by have:=(Vz hb).d1;omega)
 simp only[c2,aA,Aa,Ac,C0 j rfl,gL,I,Fu];by_cases c3:g.Z<1
 ·simp only[c3,aB,Aa,Ac,Et,D8,Dp,C8,Cs,Cm,Ch,Bz,Bq]
  exact no _ (f (p:=¬g.Z<1) (by simpa using c3) fun hb=>by have:=(Vz hb).z0;omega)
 simp only[c3,aA,Aa,Ac,C0 j rfl,gL,I,Et];by_cases c4:64<g.Z
 ·simp only[c4,aB,Aa,Ac,D8,Dp,C8,Cs,Cm,Ch,Bz,Bq]
  exact no _ (f (p:=¬64<g.Z) (by simpa using c4) fun hb=>by have:=(Vz hb).z1;omega)
 simp only[c4,aA,Aa,Ac,C0 j rfl,gL,I,D8];by_cases c5:g.S<4
 ·simp only[c5,aB,Aa,Ac,Dp,C8,Cs,Cm,Ch,Bz,Bq]
  exact no _ (f (p:=¬g.S<4) (by simpa using c5) fun hb=>by have:=(Vz hb).s0;omega)
 simp only[c5,aA,Aa,Ac,C0 j rfl,gL,I,Dp];by_cases F:64<g.S
 ·simp only[F,aB,Aa,Ac,C8,Cs,Cm,Ch,Bz,Bq]
  exact no _ (f (p:=¬64<g.S) (by simpa using F) fun hb=>by have:=(Vz hb).s1;omega)
 simp only[F,aA,Aa,Ac,C0 j rfl,gL,I,C8];by_cases G:g.B<1
 ·simp only[G,aB,Aa,Ac,Cs,Cm,Ch,Bz,Bq]
  exact no _ (f (p:=¬g.B<1) (by simpa using G) fun hb=>by have:=(Vz hb).b0;omega)
 simp only[G,aA,Aa,Ac,C0 j rfl,gL,I,Cs];by_cases J:256<g.B
 ·simp only[J,aB,Aa,Ac,Cm,Ch,Bz,Bq]
  exact no _ (f (p:=¬256<g.B) (by simpa using J) fun hb=>by have:=(Vz hb).b1;omega)
 simp only[J,aA,Aa,Ac,C0 j rfl,gL,I,Cm];by_cases L:g.P<0
 ·simp only[L,aB,Aa,Ac,Ch,Bz,Bq]
  exact no _ (f (p:=¬g.P<0) (by simpa using L) fun hb=>by have:=(Vz hb).p0;omega)
 simp only[L,aA,Aa,Ac,C0 j rfl,gL,I,Ch];by_cases d1:4<g.P
 ·simp only[d1,aB,Aa,Ac,Bz,Bq]
  exact no _ (f (p:=¬4<g.P) (by simpa using d1) fun hb=>by have:=(Vz hb).p1;omega)
 simp only[d1,aA,Aa,Ac,C0 j rfl,gL,I,Bz];by_cases d2:g.O<4
 ·simp only[d2,aB,Aa,Ac,Bq]
  exact no _ (f (p:=¬g.O<4) (by simpa using d2) fun hb=>by have:=(Vz hb).o0;omega)
 simp only[d2,aA,Aa,Ac,C0 j rfl,gL,I,Bq];by_cases d3:64<g.O
 ·simp only[d3,aB,Aa]
  exact no _ (f (p:=¬64<g.O) (by simpa using d3) fun hb=>by have:=(Vz hb).o1;omega)
 have hs:smB g=true:=by
  simp only[smB,bL,On];omega
 have s:=Vz hs;rw[hs];simp only[d3,aA,Aa,Ac,Ug,Ar,Cg hn,Cz j rfl,Aj (show(gL g).length=6 from rfl),bD];refine Ok.bE (P:=fun v h4=>v=I g.parts/\Ext W.lift h4) ⟨_,_,Bjr s hK _,rfl,As.new _ _⟩ (fun _ _ p=>p.2) ?_;rintro _ h4 X ⟨rfl,_⟩ _ U;have y:X.get h.next=some (.cells (gL g) 114):=by rw[U.get _ hn id];exact j
 simp only[Aa,Ac,Ar,Cg hn,C0 y rfl,gL,I];by_cases E:g.parts<=g.S
 ·simp only[E,aB,Aa,Ar,Cg hn,C0 y rfl,Cz y rfl,Aj (show(gL g).length=6 from rfl),gL,I,Ac,bD]
  refine Ok.bE (A8l s _) (fun _ _ p=>p.2) ?_;rintro _ h6 h7 ⟨rfl,_⟩ _ Y;obtain⟨t0,t1⟩:=Bnb s;have:=s.s0;have:=s.s1;have:=s.b0;have:=s.b1;obtain⟨m0,m1⟩:=A0d (a:=g.S) (b:=g.segments) (A:=64) (B:=2000) (by omega) (by omega) (by omega) (by omega) (by omega);simp only[Ac,I,Il,Aa];rw[Ci (n:=2*g.B) (by omega) (by omega),Ci (n:=g.S*g.segments) (by omega) (by omega)];exact .ret ⟨rfl,C.trans (U.trans Y)⟩
 ·simp only[E,aA,Aa,Ac,Il,ak]
  exact .ret ⟨rfl,C.trans U⟩
theorem A6b(f:1<=n)(h2:n<=4096)(h:Ab):Arn K (I n) h=some (.tuple [.ptr (h.next+1) 0,I 0],(h.new (.chan n [])).new (.cells [.chan h.next] 266)):=by
 simp only[Arn,I,Ac,Aa];have a:¬(n:Int)<1:=by omega
 have b:¬(4096:Int)<(n:Int):=by omega
 simp only[a,b,aA,Aa,Ac,Awb,Avx];have hm:Arq (.int .i64 (n:Int)) h=some (.chan h.next,h.new (.chan n [])):=by
  show Ax (Nat.ble n 65536) _ none=_;rw[aO (by omega),Ak]
 rw[hm,Aq,Aw (l:=[.chan h.next]) rfl];simp only[Aa];rfl
structure E3(h:Ab)(p ql n:Nat)(q c:Nat->Nat)(g:Gm)(ps:Nat->List Int):Prop where
 pos:0<n
 Gh:h.get p=some (.cells (gL g++[.slice ql 0 n n true]) 198)
 row:h.get ql=some (.vec ((List.range n).map fun d=>.ptr (q d) 0) 199 1)
 que:∀d,d<n->h.get (q d)=some (.cells [.chan (c d)] 266)
 chan:∀d,d<n->h.get (c d)=some (.chan g.Z.toNat ((ps d).map I))
 inj:∀d e,d<n->e<n->c d=c e->d=e
structure Bdx(h0 h:Ab)(p ql i:Nat)(q c:Nat->Nat)(g:Gm)(s:EV):Prop where
 Gh:h.get p=some (.cells (gL g++[s]) 198)
 row:Cc h s ql 199 1 i ((List.range i).map fun d=>.ptr (q d) 0)
 que:∀d,d<i->h.get (q d)=some (.cells [.chan (c d)] 266)
 chan:∀d,d<i->h.get (c d)=some (.chan g.Z.toNat [])
 inj:∀d e,d<i->e<i->c d=c e->d=e
 new:h0.next<=p/\(0<i->h0.next<=ql)/\∀d,d<i->h0.next<=q d/\h0.next<=c d
 ext:Ext h0 h
 hb:HB h
theorem A33 {g:Gm}(s:Sm g)(h0:Ab){b p:Nat}(Y:b<h0.next)(hg:h0.get b=some (.cells (gL g) 23)):∀(m i:Nat) (ql:Nat) (q c:Nat->Nat) (B:EV) (h:Ab),g.D.toNat-i<m->i<=g.D.toNat->Bdx h0 h p ql i q c g B ->
 Ok (Ab1 K m (.ptr b 0) (.ptr p 0) (I g.D) (I i) h) fun v h'=>v=.tuple [.ptr p 0,I 0]/\Ext h0 h'/\HB h'/\∃ql q c B,Bdx h0 h' p ql g.D.toNat q c g B:=by
 have:=s.d0;have:=s.d1;have:=s.z0;have:=s.z1;intro m;induction m with
 | zero=>intro i _ _ _ _ _ hm;omega
 | succ m ih=>
  intro i ql q c B h hm hi P;simp only[Ab1,I,Ac,Aa];by_cases J:(i:Int)<g.D
  ·have aa:h.get b=some (.cells (gL g) 23):=by rw[P.ext.get _ Y id];exact hg
   simp only[J,aB,Aa,Ayw,C0 aa rfl,gL,I];have hq:=A6b (K:=K) (n:=g.Z.toNat) (by omega) (by omega) h;rw[fN (by omega)]at hq;simp only[I]at hq;simp only[hq,Aa,Ac,aC,aA,Azd];have e1:Ext h ((h.new (.chan g.Z.toNat [])).new (.cells [.chan h.next] 266)):=(As.new _ _).trans (As.new _ _);have y:HB ((h.new (.chan g.Z.toNat [])).new (.cells [.chan h.next] 266)):=(P.hb.new _).new _;have gq:((h.new (.chan g.Z.toNat [])).new (.cells [.chan h.next] 266)).get (h.next+1)=some (.cells [.chan h.next] 266):=Ad _ _;have gc:((h.new (.chan g.Z.toNat [])).new (.cells [.chan h.next] 266)).get h.next=some (.chan g.Z.toNat []):=by rw[Az _ (aR _)];exact Ad _ _
   have n1:((h.new (.chan g.Z.toNat [])).new (.cells [.chan h.next] 266)).next=h.next+2:=rfl
   generalize (h.new (.chan g.Z.toNat [])).new (.cells [.chan h.next] 266)=A at e1 y gq gc n1⊢;have gp:A.get p=some (.cells (gL g++[B]) 198):=e1.at P.hb P.Gh;have F:Cc A B ql 199 1 i ((List.range i).map fun d=>.ptr (q d) 0):=P.row.frame fun hl=>e1.get _ (P.hb _ _ (P.row.block hl)) id
   have lp:=P.hb _ _ P.Gh;rw[C0 gp rfl,show(gL g++[B])[6]? = some B from rfl,Gu];refine L7 (z:=[.Bw]) F y rfl rfl rfl (by omega) (by omega) ?_;intro h2 G n2 c2;have n0:=P.ext.next
   have C:∀x o,A.get x=some o->(∀l e sz,o≠.vec l e sz)->¬(0<i/\x=ql):=by
    rintro x o X L ⟨hl,rfl⟩;rw[F.block hl]at X;cases X;exact L _ _ _ rfl
   have U:h2.get p=some (.cells (gL g++[B]) 198):=c2.at y gp (C _ _ gp (by intros;simp));refine Ok.st (gL g++[EV.slice (A.next+1) 0 (i+1) (i+1) true]) U rfl rfl rfl ?_;simp only[Ayq,I,Ac];rw[Ci];have hE:Ext h h2->Ext h0 h2:=fun x=>P.ext.trans x
   have x2:Ext h0 h2:=by
    refine(P.ext.trans e1).then c2 fun j hj J=>?_
    have:=(P.new.2.1 hj.1);omega
   have x3:Ext h0 (h2.put p (.cells (gL g++[EV.slice (A.next+1) 0 (i+1) (i+1) true]) 198)):=x2.Ao (.inr P.new.1) (by have:=c2.next;omega) _;have ae:=c2.hb y;have af:HB (h2.put p (.cells (gL g++[EV.slice (A.next+1) 0 (i+1) (i+1) true]) 198)):=ae.put (by have:=c2.next;omega) _;have Cv:∀x o,h.get x=some o->(∀l e sz,o≠.vec l e sz)->x≠p->(h2.put p (.cells (gL g++[EV.slice (A.next+1) 0 (i+1) (i+1) true]) 198)).get x=some o:=by
    intro x o X L ag;rw[Ae _ (cT ag)];have W:=e1.at P.hb X;exact c2.at y W (C _ _ W L)
   have aq:h.next<A.next:=by omega
   have P':Bdx h0 (h2.put p (.cells (gL g++[EV.slice (A.next+1) 0 (i+1) (i+1) true]) 198)) p (A.next+1) (i+1) (fun d=>if d=i then h.next+1 else q d) (fun d=>if d=i then h.next else c d) g (.slice (A.next+1) 0 (i+1) (i+1) true):=by
    refine⟨Af _ _ _,?_,?_,?_,?_,⟨P.new.1,fun _=>by omega,?_⟩,x3,af⟩
    ·have:(List.range (i+1)).map (fun d=>EV.ptr (if d=i then h.next+1 else q d) 0)=((List.range i).map fun d=>EV.ptr (q d) 0)++EV.cells (.ptr (h.next+1) 0):=by
      rw[dJ,bm];congr 1
      ·refine cZ fun d hd=>?_
       rw[aM (by have:=eU.1 hd;omega)]
      ·simp[EV.cells]
     rw[this];refine G.frame fun _=>Ae _ ?_
     have:=G.block (by omega);exact Ay U this (by simp)
    ·intro d hd
     by_cases f:d=i
     ·subst f
      simp only[bI];rw[Ae _];exact c2.at y gq (C _ _ gq (by intros;simp))
     ·simp only[f,aY]
      have:=P.que d (by omega);exact Cv _ _ this (by intros;simp) (Ay this P.Gh (by simp))
    ·intro d hd
     by_cases f:d=i
     ·subst f
      simp only[bI];rw[Ae _];exact c2.at y gc (C _ _ gc (by intros;simp))
     ·simp only[f,aY]
      have:=P.chan d (by omega);exact Cv _ _ this (by intros;simp) (Ay this P.Gh (by simp))
    ·intro d e hd he E
     have lc:=fun d (hd:d<i)=>P.hb _ _ (P.chan d hd)
     by_cases f:d=i<;>by_cases O:e=i
     ·omega
     ·simp only[f,O,bI,aY]at E;have:=lc e (by omega);omega
     ·simp only[f,O,bI,aY]at E;have:=lc d (by omega);omega
     ·simp only[f,O,aY]at E;exact P.inj d e (by omega) (by omega) E
    ·intro d hd
     by_cases f:d=i
     ·subst f;simp only[bI];omega
     ·simp only[f,aY];exact P.new.2.2 d (by omega)
   exact ih (i+1) _ _ _ _ _ (by omega) (by omega) P'
  ·have:i=g.D.toNat:=by omega
   subst this;simp only[J,aA,Aa,Ayk];exact .ret ⟨rfl,P.ext,P.hb,ql,q,c,B,P⟩
theorem A57 {g:Gm}(U:rtB g=true)(hK:1000<K)(hb:HB h):Ok (Alv K (gV g) h) fun v h'=>∃p ql q c,v=.tuple [.ptr p 0,I 0]/\Ext h h'/\HB h'/\E3 h' p ql g.D.toNat q c g (fun _=>[])/\h.next<=p/\h.next<=ql/\∀d,d<g.D.toNat->h.next<=q d/\h.next<=c d:=by
 have s:=Uy U;have:=s.d0;have:=s.d1;simp only[Alv,gV,Aa];have G:(h.new (.cells (gL g) 23)).get h.next=some (.cells (gL g) 23):=Ad _ _
 have hn:h.next<(h.new (.cells (gL g) 23)).next:=aR _
 have F:Ext h (h.new (.cells (gL g) 23)):=As.new _ _;generalize h.new (.cells (gL g) 23)=X at G hn F⊢;simp only[Cz G rfl,Aj (show(gL g).length=6 from rfl),Aa];refine(Vr g X).Am ?_;rintro _ h2 ⟨rfl,y⟩;rw[U];have j:h2.get h.next=some (.cells (gL g) 23):=by rw[y.get _ hn id];exact G
 have A:h.next<h2.next:=aN hn y.next
 simp only[Aa,Ayx,Cz j rfl,Aj (show(gL g).length=6 from rfl)];rw[Aw (l:=gL g++[.Al]) rfl];simp only[Aa];have J:=(y.hb (F.hb hb));have B:(h2.new (.cells (gL g++[.Al]) 198)).get h.next=some (.cells (gL g) 23):=by rw[Az _ A];exact j
 have C:(h2.new (.cells (gL g++[.Al]) 198)).get h2.next=some (.cells (gL g++[.Al]) 198):=Ad _ _
 have W:Ext h2 (h2.new (.cells (gL g++[.Al]) 198)):=As.new _ _;have E:HB (h2.new (.cells (gL g++[.Al]) 198)):=J.new _;have n3:h2.next<(h2.new (.cells (gL g++[.Al]) 198)).next:=aR _
 generalize h2.new (.cells (gL g++[.Al]) 198)=Y at B C W E n3⊢;simp only[C0 B rfl,gL,Aa,I];refine(A33 (K:=K) (p:=h2.next) s h2 A j K 0 0 (fun _=>0) (fun _=>0) .Al Y (by omega) (by omega) ⟨C,.nil _ _ _ _,fun d hd=>absurd hd (cn _),fun d hd=>absurd hd (cn _),fun d e hd=>absurd hd (cn _),⟨aD _,fun x=>absurd x (bS _),fun d hd=>absurd hd (cn _)⟩,W,E⟩).mono ?_;rintro v h' ⟨rfl,x4,L,ql,q,c,sl,P⟩;refine⟨h2.next,ql,q,c,rfl,F.trans (y.trans x4),L,?_⟩;have f:0<g.D.toNat:=by omega
 have O:=P.row.slice f;subst O;have t:=F.next
 have t2:=y.next
 exact⟨⟨f,P.Gh,P.row.block f,P.que,P.chan,P.inj⟩,by omega,by have:=P.new.2.1 f;omega,fun d hd=>by have:=P.new.2.2 d hd;omega⟩
theorem A9r {g:Gm}(f:rtB g=false)(h:Ab):Ok (Alv K (gV g) h) fun v h'=>v=.tuple [.Bw,I 20]/\Ext h h':=by
 simp only[Alv,gV,Aa];obtain⟨j,y,A,B,_⟩:=nW h (.cells (gL g) 23);rw[y];simp only[Cz B rfl,Aj (show(gL g).length=6 from rfl),Aa];refine(Vr g j).Am ?_;rintro _ h2 ⟨rfl,C⟩;rw[f];simp only[Aa];exact .ret ⟨rfl,A.trans C⟩
theorem A0x(n a:Int)(h:Ab):Acf K (I n) (I a) h=some (.bool (wi n 1 a),h):=by
 simp only[Acf,I,Ac,Aa];by_cases f:1<=n
 ·simp only[f,aB,Aa,Ac,Ago,wi,bD]
 ·simp only[f,aA,Aa,Ac,Ago,wi,ak]
def Vy(size:Int):Ca:=.cells [.Al,I size,I 0,I 0,.bool false] 277
theorem A6q {size:Int}(f:1<=size)(h2:size<=64)(h:Ab):Mo K (I size) h=some (.tuple [.ptr h.next 0,I 0],h.new (Vy size)):=by
 have a:¬size<1:=by omega
 have b:¬64<size:=by omega
 simp only[Mo,I,Ac,Aa,a,b,aA,Vh,Vp];rw[Aw (l:=[.Al,I size,I 0,I 0,.bool false]) rfl];simp only[Aa];rfl
structure Zn where
 l:List (List EV)
 safe:Nat
 st:Nat
 fin:Bool
def Zn.empty:Zn:=⟨[],0,0,false⟩
structure E4(h:Ab)(z q:Nat)(size:Int)(Z:Zn):Prop where
 An:∃s,h.get z=some (.cells [s,I size,I Z.safe,I Z.st,.bool Z.fin] 277)/\Cc h s q 30 64 Z.l.length Z.l.flatten
 wf:∀x∈Z.l,x.length=64
structure Lt(h:Ab)(V zl n:Nat)(z q:Nat->Nat)(size op cnt:Int)(down:Bool)(Zs:Nat->Zn):Prop where
 pos:0<n
 dev:h.get V=some (.cells [.slice zl 0 n n true,I size,I op,I cnt,.bool down] 152)
 row:h.get zl=some (.vec ((List.range n).map fun i=>.ptr (z i) 0) 220 1)
 An:∀i,i<n->E4 h (z i) (q i) size (Zs i)
 A58:∀i j,i<n->j<n->z i=z j->i=j
 Bab:∀i j,i<n->j<n->(Zs i).l≠[]->(Zs j).l≠[]->q i=q j->i=j
structure Bgw(h0 h:Ab)(V zl i:Nat)(z:Nat->Nat)(size op:Int)(s:EV):Prop where
 dev:h.get V=some (.cells [s,I size,I op,I 0,.bool false] 152)
 row:Cc h s zl 220 1 i ((List.range i).map fun d=>.ptr (z d) 0)
 An:∀d,d<i->h.get (z d)=some (Vy size)
 A58:∀d e,d<i->e<i->z d=z e->d=e
 new:h0.next<=V/\(0<i->h0.next<=zl)/\∀d,d<i->h0.next<=z d
 ext:Ext h0 h
 hb:HB h
theorem A39 {size:Int}(hn:n<=512)(s0:1<=size)(s1:size<=64)(h0:Ab):∀(m i:Nat) (zl:Nat) (z:Nat->Nat) (F:EV) (h:Ab),n-i<m->i<=n->Bgw h0 h V zl i z size op F ->
 Ok (Acb K m (I size) (.ptr V 0) (I n) (I i) h) fun v h'=>v=.tuple [.ptr V 0,I 0]/\∃zl z F,Bgw h0 h' V zl n z size op F:=by
 intro m;induction m with
 | zero=>intro i _ _ _ _ hm;omega
 | succ m ih=>
  intro i zl z F h hm hi P;simp only[Acb,I,Ac,Aa];by_cases G:(i:Int)<n
  ·simp only[G,aB,Aa,Ayj]
   have hq:=A6q (K:=K) s0 s1 h;simp only[I]at hq;simp only[hq,Aa,Ac,aC,aA,Azc];have e1:Ext h (h.new (Vy size)):=As.new _ _;have y:HB (h.new (Vy size)):=P.hb.new _;have gz:(h.new (Vy size)).get h.next=some (Vy size):=Ad _ _
   have n1:(h.new (Vy size)).next=h.next+1:=rfl
   generalize h.new (Vy size)=A at e1 y gz n1⊢;have O:A.get V=some (.cells [F,I size,I op,I 0,.bool false] 152):=e1.at P.hb P.dev;have C:Cc A F zl 220 1 i ((List.range i).map fun d=>.ptr (z d) 0):=P.row.frame fun hl=>e1.get _ (P.hb _ _ (P.row.block hl)) id
   have lp:=P.hb _ _ P.dev;rw[C0 O rfl];simp only[Aa];refine L7 (z:=[.Bw]) C y rfl rfl rfl (by omega) (by omega) ?_;intro h2 E n2 c2;have n0:=P.ext.next
   have U:∀x o,A.get x=some o->(∀l e sz,o≠.vec l e sz)->¬(0<i/\x=zl):=by
    rintro x o hx J ⟨hl,rfl⟩;rw[C.block hl]at hx;cases hx;exact J _ _ _ rfl
   have W:=c2.at y O (U _ _ O (by intros;simp));refine Ok.st1 W rfl rfl (by show 0<5;decide) ?_;simp only[Ayn,I,Ac,List.set];rw[Ci];have x2:Ext h0 h2:=by
    refine(P.ext.trans e1).then c2 fun j hj G=>?_
    have:=(P.new.2.1 hj.1);omega
   have ad:=c2.hb y;have X:V<h2.next:=by have:=c2.next;omega
   have x3:=x2.Ao (.inr P.new.1) X (.cells [EV.slice (A.next+1) 0 (i+1) (i+1) true,I size,I op,I 0,.bool false] 152);have ae:=ad.put X (.cells [EV.slice (A.next+1) 0 (i+1) (i+1) true,I size,I op,I 0,.bool false] 152);have Cv:∀x o,A.get x=some o->(∀l e sz,o≠.vec l e sz)->x≠V->(h2.put V (.cells [EV.slice (A.next+1) 0 (i+1) (i+1) true,I size,I op,I 0,.bool false] 152)).get x=some o:=by
    intro x o Y J af;rw[Ae _ (cT af)];exact c2.at y Y (U _ _ Y J)
   have P':Bgw h0 (h2.put V (.cells [EV.slice (A.next+1) 0 (i+1) (i+1) true,I size,I op,I 0,.bool false] 152)) V (A.next+1) (i+1) (fun d=>if d=i then h.next else z d) size op (.slice (A.next+1) 0 (i+1) (i+1) true):=by
    refine⟨Af _ _ _,?_,?_,?_,⟨P.new.1,fun _=>by omega,?_⟩,x3,ae⟩
    ·have:(List.range (i+1)).map (fun d=>EV.ptr (if d=i then h.next else z d) 0)=((List.range i).map fun d=>EV.ptr (z d) 0)++EV.cells (.ptr h.next 0):=by
      rw[dJ,bm];congr 1
      ·refine cZ fun d hd=>?_
       rw[aM (by have:=eU.1 hd;omega)]
      ·simp[EV.cells]
     rw[this];refine E.frame fun _=>Ae _ ?_
     have:=E.block (by omega);exact Ay W this (by simp)
    ·intro d hd
     by_cases f:d=i
     ·subst f
      simp only[bI];exact Cv _ _ gz (by intros;simp[Vy]) (Ay gz O (by simp[Vy]))
     ·simp only[f,aY]
      have:=e1.at P.hb (P.An d (by omega));exact Cv _ _ this (by intros;simp[Vy]) (Ay this O (by simp[Vy]))
    ·intro d e hd he B
     have lc:=fun d (hd:d<i)=>P.hb _ _ (P.An d hd)
     by_cases f:d=i<;>by_cases L:e=i
     ·omega
     ·simp only[f,L,bI,aY]at B;have:=lc e (by omega);omega
     ·simp only[f,L,bI,aY]at B;have:=lc d (by omega);omega
     ·simp only[f,L,aY]at B;exact P.A58 d e (by omega) (by omega) B
    ·intro d hd
     by_cases f:d=i
     ·subst f;simp only[bI];omega
     ·simp only[f,aY];exact P.new.2.2 d (by omega)
   exact ih (i+1) _ _ _ _ (by omega) (by omega) P'
  ·have:i=n:=by omega
   subst this;simp only[G,aA,Aa,Ayv];exact .ret ⟨rfl,zl,z,F,P⟩
def Aqw(zones size op:Int):Bool:=wi zones 1 512&&wi op 1 64&&wi size 1 64
theorem A8q {size:Int}(A:Aqw zones size op=true)(hK:1000<K)(hb:HB h):Ok (Av9 K (I zones) (I size) (I op) h) fun v h'=>∃V zl z,v=.tuple [.ptr V 0,I 0]/\Ext h h'/\HB h'/\Lt h' V zl zones.toNat z (fun _=>0) size op 0 false (fun _=>Zn.empty)/\h.next<=V/\h.next<=zl/\∀d,d<zones.toNat->h.next<=z d:=by
 simp only[Aqw,bL]at A;obtain⟨⟨B,C⟩,E⟩:=A;obtain⟨a0,J⟩:=On.1 B;obtain⟨c0,c1⟩:=On.1 E;have w:=fun n a=>A0x (K:=K) n a h
 simp only[I]at w;simp only[Av9,I,w,B,C,Aa,Ac,Ay5,Ay9];rw[Aw (l:=[.Al,I size,I op,I 0,.bool false]) rfl];simp only[Aa];have P:Bgw h (h.new (.cells [.Al,I size,I op,I 0,.bool false] 152)) h.next 0 0 (fun _=>0) size op .Al:=
  ⟨Ad _ _,.nil _ _ _ _,fun d hd=>absurd hd (cn _),fun d e hd=>absurd hd (cn _),⟨aD _,fun x=>absurd x (bS _),fun d hd=>absurd hd (cn _)⟩,As.new _ _,hb.new _⟩
 have:=A39 (K:=K) (n:=zones.toNat) (by omega) c0 c1 h K 0 0 (fun _=>0) .Al _ (by omega) (by omega) P;rw[fN (by omega)]at this;refine this.mono ?_;rintro v h' ⟨rfl,zl,z,L,P⟩;have f:0<zones.toNat:=by omega
 have y:=P.row.slice f;subst y;exact⟨h.next,zl,z,rfl,P.ext,P.hb,⟨f,P.dev,P.row.block f,fun i F=>⟨⟨_,P.An i F,.nil _ _ _ _⟩,fun x G=>by cases G⟩,P.A58,fun i j _ _ a=>absurd rfl a⟩,aD _,P.new.2.1 f,P.new.2.2⟩
structure Ah1(h:Ab)(D V M zl n:Nat)(z q:Nat->Nat)(size op cnt:Int)(down:Bool)(F7 happened:EV)(marks:List (EV × EV))(Zs:Nat->Zn):Prop where
 Dc:h.get D=some (.cells [.ptr V 0,F7,happened,.map M] 149)
 marks:h.get M=some (.map marks)
 dev:Lt h V zl n z q size op cnt down Zs
theorem Lt.ext{z q:Nat->Nat}{size:Int}{Zs:Nat->Zn}(d:Lt h V zl n z q size op cnt down Zs)(g:∀i o,h.get i=some o->h'.get i=some o):Lt h' V zl n z q size op cnt down Zs:=by
 refine⟨d.pos,g _ _ d.dev,g _ _ d.row,fun i f=>?_,d.A58,d.Bab⟩;obtain⟨s,a,b⟩:=(d.An i f).An;exact⟨⟨s,g _ _ a,b.frame fun j=>by rw[g _ _ (b.block j),b.block j]⟩,(d.An i f).wf⟩
theorem E3.ext{p:Nat}{q c:Nat->Nat}{g:Gm}(d:E3 h p ql n q c g ps)(e:∀i o,h.get i=some o->h'.get i=some o):E3 h' p ql n q c g ps:=
 ⟨d.pos,e _ _ d.Gh,e _ _ d.row,fun i f=>e _ _ (d.que i f),fun i f=>e _ _ (d.chan i f),d.inj⟩
theorem Ah1.ext{M:Nat}{z q:Nat->Nat}{size:Int}{Zs:Nat->Zn}(d:Ah1 h D V M zl n z q size op cnt down F7 happened marks Zs)(e:∀i o,h.get i=some o->h'.get i=some o):
 Ah1 h' D V M zl n z q size op cnt down F7 happened marks Zs:=⟨e _ _ d.Dc,e _ _ d.marks,d.dev.ext e⟩
theorem A6u {size:Int}(B:Aqw zones size op=true)(hK:1000<K)(hb:HB h):Ok (Aqr K (I zones) (I size) (I op) h) fun v h'=>∃D V M zl z,v=.tuple [.ptr D 0,I 0]/\Ext h h'/\HB h'/\Ah1 h' D V M zl zones.toNat z (fun _=>0) size op 0 false .Al .Al [] (fun _=>Zn.empty)/\(h.next<=D/\h.next<=M)/\h.next<=V/\h.next<=zl/\∀d,d<zones.toNat->h.next<=z d:=by
 simp only[Aqr,dr];refine(A8q (K:=K) B hK hb).Am ?_;rintro _ f ⟨V,zl,z,rfl,y,j,d1,nw⟩;simp only[Aa,Ac,I,aC,aA,Azk];rw[show Avy f=some (.map f.next,f.new (.map []))from rfl,Aq,Aw (l:=[.ptr V 0,.Al,.Al,.map f.next]) rfl];simp only[Aa];have A:Ext f ((f.new (.map [])).new (.cells [.ptr V 0,.Al,.Al,.map f.next] 149)):=(As.new _ _).Da _;refine .ret ⟨(f.new (.map [])).next,V,f.next,zl,z,rfl,y.trans A,(j.new _).new _,⟨Ad _ _,?_,d1.ext fun i o g=>A.at j g⟩,⟨by have:=y.next;show h.next<=f.next+1;omega,y.next⟩,nw⟩;rw[Az _ (aR _)];exact Ad _ _
section
def Awx(ps:Nat->List Int)(n:Nat)(d:Int):Nat:=if 0<=d/\d<n then(ps d.toNat).length else 0
theorem Avm{q c:Nat}{buf:List EV}(hq:h.get q=some (.cells [.chan c] 266))(hc:h.get c=some (.chan cap buf)):E5 K (.ptr q 0) h=some (I buf.length,h):=by
 simp only[E5,Aa,C0 hq rfl];have:A8u (.chan c) h=some (I buf.length,h):=by
  show(match h.get c with|some (.chan _ buf)=>some (EV.int .i64 (.ofNat (len buf)),h)|_=>none)=_;rw[hc];simp only;rw[Y9];rfl
 rw[this];rfl
section
variable{p:Nat}{q c:Nat->Nat}{g:Gm}(P:E3 h p ql n q c g ps)
include P
theorem E3.rowAt:Cc h (.slice ql 0 n n true) ql 199 1 n ((List.range n).map fun d=>.ptr (q d) 0):=.inr ⟨P.pos,rfl,P.row,by simp⟩
theorem E3.list(k:EV->R):Fw (.ptr p 6) h k=k (.slice ql 0 n n true):=by rw[C0 P.Gh rfl];rfl
theorem E3.Bdk(k:EV->R):Qp 6 (.ptr p 0) h k=k (gV g):=by rw[Cz P.Gh rfl];rfl
theorem E3.A90(hd:d<n)(k:EV->R):Fw (.ptr ql (d*1)) h k=k (.ptr (q d) 0):=by
 rw[C0 P.row rfl,bk,bA,cQ hd];rfl
theorem E3.len(hd:d<n):E5 K (.ptr (q d) 0) h=some (I (ps d).length,h):=by
 rw[Avm (P.que d hd) (P.chan d hd),bZ]
theorem A4f(d:Int):Vv K (.ptr p 0) (I d) h=some (I (Awx ps n d:Nat),h):=by
 unfold Awx;simp only[Vv,I,Ac,Aa];by_cases f:d<0
 ·simp only[f,aB,Aa,Ac,V6]
  rw[aM (by omega)];rfl
 ·simp only[f,aA,Aa,Ac,P.list,V6]
  by_cases h2:(n:Int)<=d
  ·simp only[h2,aB,Aa]
   rw[aM (by omega)];rfl
  ·simp only[h2,aA,Aa,Af1,P.list]
   have hd:d.toNat<n:=by omega
   have e:d=(d.toNat:Int):=by omega
   rw[e,P.rowAt.ix hd];simp only[Aa,P.A90 hd];rw[P.len hd,Aq,aQ (by omega)];rfl
end
def Bbp(ps:Nat->List Int)(Ts:Int)(b:Int)(d:Nat):Int:=if ¬(d:Int)=Ts/\(b<0\/(ps b.toNat).length<(ps d).length)then d else b
def Fe(ps:Nat->List Int)(Ts:Int)(n:Nat):Int:=(List.range n).foldl (Bbp ps Ts) (-1)
theorem Atz(ps:Nat->List Int)(Ts:Int)(n:Nat):Fe ps Ts (n+1)=Bbp ps Ts (Fe ps Ts n) n:=by unfold Fe;rw[dJ,List.foldl_append];rfl
theorem Bbe(ps:Nat->List Int)(Ts:Int):∀n,-1<=Fe ps Ts n/\Fe ps Ts n<(n:Int)/\(Fe ps Ts n = -1\/0<=Fe ps Ts n)
 | 0=>by unfold Fe;simp
 | n+1=>by
  obtain⟨a,b,c⟩:=Bbe ps Ts n;rw[Atz];unfold Bbp;split<;>omega
def Bd8(n:Nat)(ps:Nat->List Int):Prop:=n<=64/\∀d,d<n->(ps d).length<=4096
theorem A6c {p:Nat}{q c:Nat->Nat}{g:Gm}(Ts:Int)(hn:n<=64):∀(m i:Nat) (h:Ab),n-i<m->i<=n->HB h->E3 h p ql n q c g ps ->
 Ok (G4 K m (.ptr p 0) (I Ts) (I (Fe ps Ts i)) (.slice ql 0 n n true) (I n) (I i) h) fun v h'=>v=I (Fe ps Ts n)/\Ext h h':=by
 intro m;induction m with
 | zero=>intro i h hm;omega
 | succ m U=>
  intro i h hm X hb P;simp only[G4,I,Ac,Aa];by_cases B:(i:Int)<n
  ·have y:i<n:=by omega
   simp only[B,aB,Aa,Abu];rw[P.rowAt.ix y,P.A90 y];obtain⟨b0,b1,b2⟩:=Bbe ps Ts i;have next:∀(b:Int) (C:Ab),b=Fe ps Ts (i+1)->Ext h C->Ok (N5 K (G4 K m) (.ptr p 0) (.int .i64 Ts) (.int .i64 b) (.slice ql 0 n n true) (.int .i64 (n:Int)) (.int .i64 (i:Int)) C) fun v h'=>v=I (Fe ps Ts n)/\Ext h h':=by
    rintro _ C rfl F;simp only[N5,Ac];rw[Ci];exact(U (i+1) C (by omega) (by omega) (F.hb hb) (P.ext fun i o g=>F.at hb g)).mono fun v h' a=>⟨a.1,F.trans a.2⟩
   rw[Atz]at next
   unfold Bbp at next
   simp only[Aa,Ac];by_cases f:(i:Int)=Ts
   ·simp only[f,aC,aA,Aa,Ac,Np,Ha,G8]
    rw[aM (fun x=>x.1 f)]at next
    rw[f]at next
    exact next _ h rfl (As.refl _)
   ·simp only[f,aE,aB,Aa,Ac,Np]
    by_cases j:Fe ps Ts i<0
    ·simp only[j,aB,Aa,Ac,Ha,G8]
     rw[aQ ⟨f,.inl j⟩]at next
     exact next _ h rfl (As.refl _)
    ·simp only[j,aA,Aa,Ac]
     refine Ok.bE (P:=fun v h2=>v=I (ps i).length/\Ext h.lift h2) ⟨_,_,(P.ext (h':=h.lift) fun i o g=>by rw[Br];exact g).len y,rfl,As.refl _⟩ (fun _ _ p=>p.2) ?_;rintro _ h2 G ⟨rfl,_⟩ _ J;have E:E3 G p ql n q c g ps:=P.ext fun i o g=>J.at hb g
     have W:p<h.next:=hb _ _ P.Gh
     have hq:ql<h.next:=hb _ _ P.row
     have A:(Fe ps Ts i).toNat<n:=by omega
     simp only[Aa,Ar,Cg W,E.list];rw[show Fe ps Ts i=((Fe ps Ts i).toNat:Int) by omega,E.rowAt.ix A];simp only[Aa,Ar,Cg hq,E.A90 A];refine Ok.bE (P:=fun v h2=>v=I (ps (Fe ps Ts i).toNat).length/\Ext G.lift h2) ⟨_,_,(E.ext (h':=G.lift) fun i o g=>by rw[Br];exact g).len A,rfl,As.refl _⟩ (fun _ _ p=>p.2) ?_;rintro _ h4 L ⟨rfl,_⟩ _ O;rw[show((Fe ps Ts i).toNat:Int)=Fe ps Ts i by omega];simp only[Ac,I];by_cases hc:((ps (Fe ps Ts i).toNat).length:Int)<(ps i).length
     ·simp only[hc,aB,Ha,G8,Aa,Ac]
      rw[aQ ⟨f,.inr (by omega)⟩]at next
      exact next _ L rfl (J.trans O)
     ·simp only[hc,aA,Ha,G8,Aa,Ac]
      rw[aM (fun x=>by rcases x.2 with a|a<;>omega)]at next
      exact next _ L rfl (J.trans O)
  ·have:i=n:=by omega
   subst this;simp only[B,aA,Aa,Acr];exact .ret ⟨rfl,As.refl _⟩
theorem Atv{p:Nat}{q c:Nat->Nat}{g:Gm}(P:E3 h p ql n q c g ps)(hb:HB h)(hn:n<=64)(hK:1000<K)(Ts:Int):
 Ok (Kc K (.ptr p 0) (I Ts) h) fun v h'=>v=I (Fe ps Ts n)/\Ext h h':=by
 simp only[Kc,Aa,P.list];exact A6c Ts hn K 0 h (by omega) (by omega) hb P
def Ara(ps:Nat->List Int)(n:Nat):Nat:=((List.range n).map fun d=>(ps d).length).sum
theorem Akt(ps:Nat->List Int)(n:Nat):Ara ps (n+1)=Ara ps n+(ps n).length:=by unfold Ara;rw[dJ,bm,List.sum_append];simp
def Aa2(ps:Nat->List Int)(n:Nat):Int:=min ((Ara ps n:Int)/2) (Ara ps n-Awx ps n (Fe ps (-1) n))
theorem Ber {p:Nat}{q c:Nat->Nat}{g:Gm}(hs:Bd8 n ps)(hb:HB h)(P:E3 h p ql n q c g ps)(hK:1000<K):∀(m i:Nat),n-i<m->i<=n->Ara ps i<=4096*i ->
 Ok (Lv K m (.ptr p 0) (I (Ara ps i)) (.slice ql 0 n n true) (I n) (I i) h) fun v h'=>v=I (Aa2 ps n)/\Ext h h':=by
 obtain⟨hn,y⟩:=hs;intro m;induction m with
 | zero=>intro i hm;omega
 | succ m C=>
  intro i hm E A;simp only[Lv,I,Ac,Aa];by_cases j:(i:Int)<n
  ·have f:i<n:=by omega
   have:=y i f;simp only[j,aB,Aa,Agu];rw[P.rowAt.ix f,P.A90 f,P.len f,Aq];simp only[I,Ac,Ag2];rw[Ci,Ci];have e:((Ara ps i:Int)+(ps i).length)=(Ara ps (i+1):Nat):=by rw[Akt];omega
   rw[e];exact C (i+1) (by omega) (by omega) (by rw[Akt];omega)
  ·have:i=n:=by omega
   subst this;simp only[j,aA,Aa,Ag9];rw[Bob (by omega) (by omega) (by omega)];refine(Atv P hb hn hK (-1)).Am ?_;rintro _ F ⟨rfl,B⟩;rw[A4f (P.ext fun i o g=>B.at hb g),Aq];simp only[I,Ac];have hle:Awx ps i (Fe ps (-1) i)<=4096:=by
    unfold Awx;split
    ·exact y _ (by omega)
    ·omega
   rw[Ci,min2,Aq];exact .ret ⟨rfl,B⟩
theorem Bbf{p:Nat}{q c:Nat->Nat}{g:Gm}(P:E3 h p ql n q c g ps)(hb:HB h)(hs:Bd8 n ps)(hK:1000<K):
 Ok (Ih K (.ptr p 0) h) fun v h'=>v=I (Aa2 ps n)/\Ext h h':=by
 simp only[Ih,Aa,P.list];exact Ber hs hb P hK K 0 (by obtain⟨a,_⟩:=hs;omega) (by omega) (by unfold Ara;simp)
end
section
noncomputable def Acl(D:Nat)(g:Gm)(p bl n:Nat)(a b u:Int):List EV:=[.ptr D 0]++gL g++Be++[.ptr p 0,.slice bl 0 n n false,I a,I b,I u]
theorem P7:Be.length=256:=by kernel_rfl
section
variable (D:Nat)(g:Gm)(p bl n:Nat)(a b u:Int)
theorem A2a:(Acl D g p bl n a b u).length=268:=by unfold Acl;simp[P7,gL]
theorem Bds:(Acl D g p bl n a b u)[0]? = some (.ptr D 0):=rfl
theorem Bhk:Mu (Acl D g p bl n a b u) 1 6=some (gL g):=by kernel_rfl
theorem Bdw:Mu (Acl D g p bl n a b u) 7 256=some Be:=by kernel_rfl
theorem Bjv:(Acl D g p bl n a b u)[263]? = some (.ptr p 0):=by kernel_rfl
theorem Boo:(Acl D g p bl n a b u)[264]? = some (.slice bl 0 n n false):=by kernel_rfl
theorem Btl:(Acl D g p bl n a b u)[265]? = some (I a):=by kernel_rfl
theorem Bto:(Acl D g p bl n a b u)[266]? = some (I b):=by kernel_rfl
theorem Bso:(Acl D g p bl n a b u)[267]? = some (I u):=by kernel_rfl
end
theorem Q6{l:List EV}(f:h.get i=some (.cells l t))(hs:TT.size t=some n)(j:TT.agg t=some true)(y:l.length=n):Ij TT [.c (.ptr i 0) t] h=some (.agg l,h):=by
 have A:I5 h i 0 n=some l:=by
  unfold I5;rw[f];simp only;rw[<-Ai5];exact Aj y
 unfold Ij;simp only[Azs,hs,A,j]
structure Abj(h:Ab)(m D p bl n:Nat)(g:Gm)(a b u:Int)(bad:Nat->Int):Prop where
 Hi:h.get m=some (.cells (Acl D g p bl n a b u) 132)
 Az4:h.get bl=some (.cells ((List.range n).map fun z=>I (bad z)) 3)
section
variable{m p bl:Nat}{g:Gm}{u:Int}{bad:Nat->Int}(M:Abj h m D p bl n g a b u bad)
include M
theorem Abj.Dc(k:EV->R):Fw (.ptr m 0) h k=k (.ptr D 0):=by rw[C0 M.Hi rfl,Bds];rfl
theorem Abj.Bdk(k:EV->R):Qp 6 (.ptr m 1) h k=k (gV g):=by rw[Cz M.Hi rfl,Bhk];rfl
theorem Abj.table(k:EV->R):Qp 256 (.ptr m 7) h k=k U0:=by rw[Cz M.Hi rfl,Bdw];rfl
theorem Abj.Gh(k:EV->R):Fw (.ptr m 263) h k=k (.ptr p 0):=by rw[C0 M.Hi rfl,Bjv];rfl
theorem Abj.Bt8(k:EV->R):Fw (.ptr m 264) h k=k (.slice bl 0 n n false):=by rw[C0 M.Hi rfl,Boo];rfl
theorem Abj.oa(k:EV->R):Fw (.ptr m 265) h k=k (I a):=by rw[C0 M.Hi rfl,Btl];rfl
theorem Abj.ob(k:EV->R):Fw (.ptr m 266) h k=k (I b):=by rw[C0 M.Hi rfl,Bto];rfl
theorem Abj.ou(k:EV->R):Fw (.ptr m 267) h k=k (I u):=by rw[C0 M.Hi rfl,Bso];rfl
theorem Abj.ext(e:∀i o,h.get i=some o->h'.get i=some o):Abj h' m D p bl n g a b u bad:=⟨e _ _ M.Hi,e _ _ M.Az4⟩
omit M in
theorem Bqz:TT.size 23=some 6/\TT.agg 23=some true:=⟨by kernel_rfl,by kernel_rfl⟩
omit M in
theorem Br6:TT.size 119=some 256/\TT.agg 119=some true:=⟨by kernel_rfl,by kernel_rfl⟩
end
section
variable{M:Nat}{z q:Nat->Nat}{size:Int}{Zs:Nat->Zn}
theorem Anx(d:Ah1 h D V M zl n z q size op cnt down F7 happened marks Zs):Dy K (.ptr D 0) h=some (.ptr V 0,h):=by simp only[Dy,Aa,C0 d.Dc rfl]
theorem Axc(d:Lt h V zl n z q size op cnt down Zs):Nx K (.ptr V 0) h=some (I n,h):=by simp only[Nx,Aa,C0 d.dev rfl,I]
theorem Ay1(d:Lt h V zl n z q size op cnt down Zs):Pb K (.ptr V 0) h=some (I size,h):=by simp only[Pb,Aa,C0 d.dev rfl]
end
theorem Bse(v:EV):∀n,rep [v] n=List.replicate n v
 | 0=>rfl
 | n+1=>by show[v]++rep [v] n=_;rw[Bse v n];rfl
theorem Ayl(v:EV)(n:Nat):(List.range n).map (fun _=>v)=List.replicate n v:=by
 rw[List.map_const',eP]
theorem A31 {g:Gm}(hK:1000<K)(hb:HB h){M:Nat}{z q:Nat->Nat}{size:Int}{Zs:Nat->Zn}(dr:Ah1 h D V M zl n z q size op cnt down F7 happened marks Zs):
 Ok (Af5 K (.ptr D 0) (gV g) U0 h) fun v h'=>Ext h h'/\HB h'/\if rtB g=true/\g.D*g.Z=n/\g.S=size then
  ∃m p bl ql q c,v=.tuple [.ptr m 0,I 0]/\Abj h' m D p bl n g (-1) (-1) 0 (fun _=>0)/\E3 h' p ql g.D.toNat q c g (fun _=>[])/\(h.next<=m/\h.next<=bl)/\h.next<=p/\h.next<=ql/\∀d,d<g.D.toNat->h.next<=q d/\h.next<=c d else v=.tuple [.Bw,I 20]:=by
 have ai:Q2 119 U0 (h.new (.cells (gL g) 23))=fun(k:EV->Ab->R)=>k (.ptr (h.next+1) 0) ((h.new (.cells (gL g) 23)).new (.cells Be 119)):=rfl
 simp only[Af5,gV,Aa,ai];have g4:((h.new (.cells (gL g) 23)).new (.cells Be 119)).get h.next=some (.cells (gL g) 23):=by rw[Az _ (aR _)];exact Ad _ _
 have g5:((h.new (.cells (gL g) 23)).new (.cells Be 119)).get (h.next+1)=some (.cells Be 119):=Ad _ _;have F:Ext h ((h.new (.cells (gL g) 23)).new (.cells Be 119)):=(As.new _ _).Da _;have n1:((h.new (.cells (gL g) 23)).new (.cells Be 119)).next=h.next+2:=rfl
 generalize (h.new (.cells (gL g) 23)).new (.cells Be 119)=h1 at g4 g5 F n1⊢;have E:=F.hb hb;simp only[Cz g4 rfl,Aj (show(gL g).length=6 from rfl),Aa];cases hr:rtB g with
 | false=>
  refine(A9r hr h1).Am ?_;rintro _ h2 ⟨rfl,C⟩;simp only[Aa,I,Ac,show ¬((20:Int)=0) by decide,aE,aB,Abf,Ra];exact .ret ⟨F.trans C,C.hb E,rfl⟩
 | true=>
  have s:=Uy hr;have:=s.d0;have:=s.d1;have:=s.z0;have:=s.z1;obtain⟨m0,m1⟩:=Oi (a:=g.D) (b:=g.Z) (A:=8) (B:=64) (by omega) (by omega) (by omega) (by omega);refine(A57 hr hK E).Am ?_;rintro _ h2 ⟨p,ql,qq,c,rfl,C,j,P,nw⟩;have k2:∀i o,h.get i=some o->h2.get i=some o:=fun i o g=>C.at E (F.at hb g)
  have l4:h.next<h2.next:=by have:=C.next;omega
  have l5:h.next+1<h2.next:=by have:=C.next;omega
  have U:=C.at E g4;have aq:=C.at E g5;simp only[Aa,I,Ac,aC,aA];refine Ok.bE (P:=fun v h3=>v=.ptr V 0/\Ext h2.lift h3) ⟨_,_,Anx ((dr.ext k2).ext fun i o g=>by rw[Br];exact g),rfl,As.refl _⟩ (fun _ _ p=>p.2) ?_;rintro _ _ h3 ⟨rfl,_⟩ _ x3;have W:=x3.hb j;have k3:∀i o,h.get i=some o->h3.get i=some o:=fun i o g=>x3.at j (k2 i o g)
  refine Ok.bE (P:=fun v h4=>v=I n/\Ext h3.lift h4) ⟨_,_,Axc ((dr.dev.ext k3).ext fun i o g=>by rw[Br];exact g),rfl,As.refl _⟩ (fun _ _ p=>p.2) ?_;rintro _ _ h4 ⟨rfl,_⟩ _ x4;have X:=x4.hb W;have k4:∀i o,h.get i=some o->h4.get i=some o:=fun i o g=>x4.at W (k3 i o g)
  have Y:Ext h2 h4:=x3.trans x4;have ax:=Y.at j U;simp only[Aa,Ar,Cg l4,Cz ax rfl,Aj (show(gL g).length=6 from rfl)];refine Ok.bE (P:=fun v O=>v=I (g.D*g.Z)/\Ext h4.lift O) ⟨_,_,N2 s _,rfl,As.new _ _⟩ (fun _ _ p=>p.2) ?_;rintro _ _ O ⟨rfl,_⟩ _ x5;have aa:=x5.hb X;have k5:∀i o,h.get i=some o->O.get i=some o:=fun i o g=>x5.at X (k4 i o g)
  simp only[I,Ac,Abf];have ab:Ext h2 O:=Y.trans x5;by_cases hn:(n:Int)=g.D*g.Z
  ·simp only[hn,aC,aA,Aa,Ac]
   refine Ok.bE (P:=fun v h6=>v=.ptr V 0/\Ext O.lift h6) ⟨_,_,Anx ((dr.ext k5).ext fun i o g=>by rw[Br];exact g),rfl,As.refl _⟩ (fun _ _ p=>p.2) ?_;rintro _ _ h6 ⟨rfl,_⟩ _ x6;have a1:=x6.hb aa;have k6:∀i o,h.get i=some o->h6.get i=some o:=fun i o g=>x6.at aa (k5 i o g)
   refine Ok.bE (P:=fun v J=>v=I size/\Ext h6.lift J) ⟨_,_,Ay1 ((dr.dev.ext k6).ext fun i o g=>by rw[Br];exact g),rfl,As.refl _⟩ (fun _ _ p=>p.2) ?_;rintro _ _ J ⟨rfl,_⟩ _ x7;have a2:=x7.hb a1;have y:Ext h2 J:=ab.trans (x6.trans x7);have ad:=y.at j U;simp only[Aa,Ar,Cg l4,C0 ad rfl,gL,I,Ac];by_cases hs:size=g.S
   ·subst hs
    simp only[aC,aA,Ra,Ath,Aa];have a5:=y.at j aq;have a6:h.next<J.next:=aN l4 y.next
    have a7:h.next+1<J.next:=aN l5 y.next
    simp only[Aa,Ar,Cg a6,Cg a7,Cz ad rfl,Cz a5 rfl,Aj (show(gL g).length=6 from rfl),Aj P7];refine Ok.bE (P:=fun v f=>v=I (g.D*g.Z)/\Ext J.lift f) ⟨_,_,N2 s _,rfl,As.new _ _⟩ (fun _ _ p=>p.2) ?_;rintro _ _ f ⟨rfl,_⟩ _ x8;have b7:=x8.hb a2;have L:Ext h2 f:=y.trans x8;simp only[Aa,Ar,I];rw[<-hn];have a8:Wg [.int .i64 0] 3 (.int .i64 (n:Int)) (.int .i64 (n:Int)) f=some (.slice f.next 0 n n false,f.new (.cells (rep [.int .i64 0] n) 3)):=by
     show Ax (Nat.ble n n) (Ax (Nat.ble n 65536) _ none) none=_;rw[aO (aD n),Ak,aO (by omega),Ak]
    rw[a8,Aq,Aw (l:=Acl D g p f.next n (-1) (-1) 0) (by kernel_rfl)];simp only[Aa,Ar];have ae:Ext f ((f.new (.cells (rep [.int .i64 0] n) 3)).new (.cells (Acl D g p f.next n (-1) (-1) 0) 132)):=(As.new _ _).Da _;have G:Ext h ((f.new (.cells (rep [.int .i64 0] n) 3)).new (.cells (Acl D g p f.next n (-1) (-1) 0) 132)):=(F.trans C).trans (L.trans ae);refine .ret ⟨G,G.hb hb,?_⟩;rw[aQ (by first|exact⟨rfl,hn.symm,rfl⟩|simp[hn]|simp)];refine⟨f.next+1,p,f.next,ql,qq,c,rfl,⟨Ad _ _,?_⟩,P.ext fun i o g=>Ext.at (L.trans ae) j g,?_⟩
    ·rw[Az _ (aR _),Ad,Bse,Ayl]
    ·have t1:=F.next
     have t2:=C.next
     have t3:=L.next
     exact⟨⟨by omega,by omega⟩,by omega,by omega,fun d hd=>by have:=nw.2.2 d hd;omega⟩
   ·have af:¬size=g.S:=hs
    simp only[af,aE,aB,Ra,Aa];have G:Ext h J:=(F.trans C).trans y;refine .ret ⟨G,G.hb hb,?_⟩;rw[aM (fun x=>af x.2.2.symm)]
  ·simp only[hn,aE,aB,Aa,Ac,Ra]
   have G:Ext h O:=(F.trans C).trans ab;refine .ret ⟨G,G.hb hb,?_⟩;rw[aM (fun x=>hn x.2.1.symm)]
end
section
section
variable{m p bl:Nat}{g:Gm}{u:Int}{bad:Nat->Int}(M:Abj h m D p bl n g a b u bad)
include M
theorem Yg:Cn K (.ptr m 0) h=some (.ptr p 0,h):=by simp only[Cn,Aa,M.Gh]
theorem Qu:Bn K (.ptr m 0) h=some (.ptr D 0,h):=by simp only[Bn,Aa,M.Dc]
theorem A2d:Mb K (.ptr m 0) h=some (.tuple [I a,I b,I u],h):=by simp only[Mb,Aa,M.oa,M.ob,M.ou]
theorem A2e(hb:HB h):Ok (Cf K (.ptr m 0) h) fun v h'=>v=gV g/\Ext h h':=by
 simp only[Cf,Aa];have f:Abj (h.new (.cells [.int .i64 0,.int .i64 0,.int .i64 0,.int .i64 0,.int .i64 0,.int .i64 0] 23)) m D p bl n g a b u bad:=M.ext fun i o g=>Ext.at (As.new h _) hb g
 rw[f.Bdk];refine Ok.st (gL g) (Ad _ _) rfl rfl rfl ?_;rw[Q6 (Af _ _ _) Bqz.1 Bqz.2 rfl];exact .ret ⟨rfl,(As.new h _:Ext _ _).Ao (.inr (aD _)) (aR _) _⟩
theorem Ano(hb:HB h):Ok (Gb K (.ptr m 0) h) fun v h'=>v=U0/\Ext h h':=by
 simp only[Gb,Aa];have f:Abj (h.new (.cells (List.replicate 256 (.int .u32 0)) 119)) m D p bl n g a b u bad:=M.ext fun i o g=>Ext.at (As.new h _) hb g
 rw[f.table];refine Ok.st Be (Ad _ _) rfl (by rw[show EV.cells U0=Be from rfl,Bf,P7]) (by rw[show EV.cells U0=Be from rfl];exact Bl (by rw[P7];simp)) ?_;rw[Q6 (Af _ _ _) Br6.1 Br6.2 P7];exact .ret ⟨rfl,(As.new h _:Ext _ _).Ao (.inr (aD _)) (aR _) _⟩
end
end
section
section
variable{q c:Nat}(hq:h.get q=some (.cells [.chan c] 266))(hc:h.get c=some (.chan cap (xs.map I)))
include hq hc
theorem A6i(x:Int)(f:xs.length<cap):Gq K (.ptr q 0) (I x) h=some (I 0,h.put c (.chan cap ((xs++[x]).map I))):=by
 have hs:A0z (.chan c) (I x) h=some (.tuple [.int .i64 0,.bool false],h.put c (.chan cap ((xs++[x]).map I))):=by
  unfold A0z;simp only[hc,Y9,bZ];rw[aO f,Ak,bm];rfl
 simp only[Gq,Aa,C0 hq rfl,hs,Ac,aB]
theorem Bsz(x:Int)(f:cap<=xs.length):Gq K (.ptr q 0) (I x) h=some (I 17,h):=by
 have hs:A0z (.chan c) (I x) h=some (.tuple [.int .i64 (-1),.bool false],h):=by
  unfold A0z;simp only[hc,Y9,bZ];rw[show Nat.ble (Nat.succ xs.length) cap=false from by
   cases hb:Nat.ble (Nat.succ xs.length) cap with
   | false=>rfl
   | true=>have:=bB hb;omega,Bc]
 simp only[Gq,Aa,C0 hq rfl,hs,Ac,show ¬((-1:Int)=0) by decide,aA]
theorem take_cons{r:List Int}(f:xs=x::r):Fx K (.ptr q 0) h=some (.tuple [I x,I 0],h.put c (.chan cap (r.map I))):=by
 subst f;have hs:A1s (.int .i64 0) (.chan c) h=some (.tuple [.int .i64 0,.bool true,I x],h.put c (.chan cap (r.map I))):=by
  unfold A1s;simp only[hc,cR]
 simp only[Fx,Aa,C0 hq rfl,hs,Ac,aB]
theorem take_nil(f:xs = []):Fx K (.ptr q 0) h=some (.tuple [I 0,I 15],h):=by
 subst f;have hs:A1s (.int .i64 0) (.chan c) h=some (.tuple [.int .i64 (-1),.bool false,.int .i64 0],h):=by
  unfold A1s;simp only[hc,List.map_nil]
 simp only[Fx,Aa,C0 hq rfl,hs,Ac,show ¬((-1:Int)=0) by decide,aA]
end
structure Listed(h0 h:Ab)(v:EV)(c cap:Nat)(xs:List Int)(q':Nat):Prop where
 row:Cc h v q' 3 1 xs.length (xs.map I)
 new:0<xs.length->h0.next<=q'
 chan:h.get c=some (.chan cap (xs.map I))
 chg:As (fun i=>i=c) h0 h
 hb:HB h
theorem Bh6{q c:Nat}(A:h0.get q=some (.cells [.chan c] 266))(f:∃b,h0.get c=some (.chan cap b))(J:xs.length<=cap)(L:cap<=4096)(hb0:HB h0):∀(m j:Nat) (h:Ab) (s:EV) (q':Nat),xs.length-j<m->j<=xs.length ->
 Cc h s q' 3 1 xs.length (xs.map I)->(0<xs.length->h0.next<=q')->h.get c=some (.chan cap ((xs.take j).map I))->As (fun i=>i=c) h0 h->HB h ->
 Ok (H8 K m (.ptr q 0) s s (I xs.length) (I j) h) fun v h'=>∃q',Listed h0 h' v c cap xs q':=by
 obtain⟨b0,f⟩:=f;have F:q≠c:=Ay A f (by simp);have lc:=hb0 _ _ f;intro m;induction m with
 | zero=>intro j h s q' hm;omega
 | succ m O=>
  intro j h s q' hm hj row new hc x hb;simp only[H8,I,Ac,Aa];by_cases B:(j:Int)<xs.length
  ·have y:j<xs.length:=by omega
   have hq:h.get q=some (.cells [.chan c] 266):=As.at x hb0 A F;have C:=row.block (by omega);simp only[B,aB,Aa,Adq];rw[row.ix y,C0 C rfl,bk,bA,aH y,dV,Gu,A6i hq hc xs[j] (by rw[bH];omega),Aq];simp only[Adt,Ac];rw[Ci];have e:xs.take j++[xs[j]]=xs.take (j+1):=(cy y).symm;rw[e];have E:c<h.next:=aN lc x.next
   have G:q'≠c:=Ay C hc (by simp);exact O (j+1) _ s q' (by omega) (by omega) (row.frame fun _=>Ae _ (cT G)) new (Af _ _ _) (x.Ao (.inl rfl) E _) (hb.put E _)
  ·have:j=xs.length:=by omega
   subst this;simp only[B,aA,Aa,Uo];rw[cL]at hc;exact .ret ⟨q',row,new,hc,x,hb⟩
theorem Bi6{q c:Nat}(B:h0.get q=some (.cells [.chan c] 266))(f:∃b,h0.get c=some (.chan cap b))(C:xs.length<=cap)(L:cap<=4096)(hb0:HB h0)(hK:5000<K):∀(m j:Nat) (h:Ab) (s:EV) (q':Nat),xs.length-j<m->j<=xs.length ->
 Cc h s q' 3 1 j ((xs.take j).map I)->(0<j->h0.next<=q')->h.get c=some (.chan cap ((xs.drop j).map I))->As (fun i=>i=c) h0 h->HB h ->
 Ok (Ia K m (.ptr q 0) s (I xs.length) (I j) h) fun v h'=>∃q',Listed h0 h' v c cap xs q':=by
 have E:=f;obtain⟨b0,f⟩:=f;have O:q≠c:=Ay B f (by simp);have lc:=hb0 _ _ f;intro m;induction m with
 | zero=>intro j h s q' hm;omega
 | succ m Y=>
  intro j h s q' hm hj row new hc x hb;simp only[Ia,I,Ac,Aa];by_cases F:(j:Int)<xs.length
  ·have G:j<xs.length:=by omega
   have hq:h.get q=some (.cells [.chan c] 266):=As.at x hb0 B O;have e:xs.drop j=xs[j]::xs.drop (j+1):=dI G;have y:c<h.next:=aN lc x.next
   simp only[F,aB,Aa,Aen];rw[take_cons hq hc e];simp only[Aa,I,Ac,aB];have J:Cc (h.put c (.chan cap ((xs.drop (j+1)).map I))) s q' 3 1 j ((xs.take j).map I):=row.frame fun U=>Ae _ (cT (Ay (row.block U) hc (by simp)))
   refine L7 (z:=[.int .i64 0]) J (hb.put y _) rfl rfl rfl (by omega) (by omega) ?_;intro h2 A n2 c2;have W:As (fun i=>i=c) h0 (h.put c (.chan cap ((xs.drop (j+1)).map I))):=x.Ao (.inl rfl) y _;have x3:As (fun i=>i=c) h0 h2:=W.then c2 fun i hi U=>by have:=new hi.1;omega
   simp only[Aet,Ac];rw[Ci];have e2:(xs.take j).map I++EV.cells (.int .i64 xs[j])=(xs.take (j+1)).map I:=by
    rw[cy G,bm];rfl
   rw[e2]at A;refine Y (j+1) _ _ _ (by omega) (by omega) A (fun _=>by have:=W.next;omega) ?_ x3 (c2.hb (hb.put y _));rw[c2.get _ (by rw[Ab.Qz];exact y) (fun X=>by
    have:=row.block X.1;exact Ay this hc (by simp) X.2.symm)]
   exact Af _ _ _
  ·have:j=xs.length:=by omega
   subst this;rw[cL]at row;simp only[F,aA,Aa,U1];rw[row.Hf];rw[List.drop_length]at hc;exact Bh6 B E C L hb0 K 0 h s q' (by omega) (by omega) row new hc x hb
theorem A4a{q c:Nat}(j:h0.get q=some (.cells [.chan c] 266))(f:h0.get c=some (.chan cap (xs.map I)))(y:xs.length<=cap)(A:cap<=4096)(hb0:HB h0)(hK:5000<K):
 Ok (Tz K (.ptr q 0) h0) fun v h'=>∃q',Listed h0 h' v c cap xs q':=by
 simp only[Tz,dr];rw[Avm j f,Aq,bZ];exact Bi6 j ⟨_,f⟩ y A hb0 hK K 0 h0 .Al 0 (by omega) (by omega) (.nil _ _ _ _) (fun x=>absurd x (bS _)) f (As.refl _) hb0
theorem Listed.same{c:Nat}{q':Nat}(l:Listed h0 h v c cap xs q')(hc:h0.get c=some (.chan cap (xs.map I))):∀i,i<h0.next->h.get i=h0.get i:=by
 intro i f;by_cases e:i=c
 ·subst e;rw[l.chan,hc]
 ·exact l.chg.get i f e
end
section
theorem Buz:(Ek TT 18 0).2.1 = [9,10]:=by kernel_rfl
theorem Buo:(Ek TT 146 0).2.1 = [19,20]:=by kernel_rfl
section
variable (H:By disp)
include H
theorem Bjn(he:1<=e){z i:Int}(E:h.get l0=some (Av TT 18 14 0 tm .ready none d0))(t3:tmp tm 3=.ptr b3 0)(t4:tmp tm 4=.ptr b4 0)(U:h.get b3=some (.cells [I z] 3))(J:h.get b4=some (.cells [.bool false] 4))(hb:HB h):
 ∃h',Ag TT disp K (e+1) true l0 [I i,I x] h=some (.bool (decide (¬x=z)),h')/\h'.get l0=some (Av TT 18 14 0 tm (if x=z then .done else .ready) (if x=z then some .ret else none) d0)/\h'.get b4=some (.cells [.bool (decide (x=z))] 4)/\As (fun j=>j=l0\/j=b4) h h'/\HB h':=by
 have y:=E;unfold Av at y;rw[Buz]at y;rw[Aqf H he tm h (I i) (I x) y,t3,t4];have F:=hb _ _ E;have X:=hb _ _ J;have L:l0≠b3:=Ay E U (by simp[Av]);have f:l0≠b4:=Ay E J (by simp[Av]);simp only[Akh,Wx E,Abm,dr];have G:(h.put l0 (Av TT 18 14 0 tm .busy none d0)).get b3=some (.cells [I z] 3):=by rw[Ae _ L];exact U
 have A:(h.put l0 (Av TT 18 14 0 tm .busy none d0)).get b4=some (.cells [.bool false] 4):=by rw[Ae _ f];exact J
 have B:(h.put l0 (Av TT 18 14 0 tm .busy none d0)).get l0=some (Av TT 18 14 0 tm .busy none d0):=Af _ _ _;have O:As (fun j=>j=l0\/j=b4) h (h.put l0 (Av TT 18 14 0 tm .busy none d0)):=(As.refl h).Ao (.inl (.inl rfl)) F _;have C:HB (h.put l0 (Av TT 18 14 0 tm .busy none d0)):=hb.put F _;have Y:(h.put l0 (Av TT 18 14 0 tm .busy none d0)).next=h.next:=rfl
 generalize h.put l0 (Av TT 18 14 0 tm .busy none d0)=h1 at G A B O C Y⊢;simp only[C0 G rfl,Aa,I,Ac];by_cases W:x=z
 ·simp only[W,aB,Aa,aC,aA,bI]
  rw[Ao8 (o:=0) (n:=1) (v:=.bool true) (l':=[.bool true]) A rfl rfl rfl,Nj (by rw[Ae _ (cT f)];exact B)];exact⟨_,rfl,Af _ _ _,by rw[Ae _ f];exact Af _ _ _,(O.Ao (.inl (.inr rfl)) (by omega) _).Ao (.inl (.inl rfl)) (by rw[Ab.Qz];omega) _,(C.put (by omega) _).put (by rw[Ab.Qz];omega) _⟩
 ·simp only[W,aA,Aa,aE,aB,aY]
  rw[Nj B];exact⟨_,rfl,Af _ _ _,by rw[Ae _ f];exact A,O.Ao (.inl (.inl rfl)) (by omega) _,C.put (by omega) _⟩
theorem Bg1(he:2<=e){l1 d1 b5:Nat}{z i dd:Int}(X:h.get l0=some (Av TT 18 14 0 tm .ready none d0))(t3:tmp tm 3=.ptr b3 0)(t4:tmp tm 4=.ptr b4 0)(g3:h.get b3=some (.cells [I z] 3))(g4:h.get b4=some (.cells [.bool false] 4))
 (f:h.get l1=some (Av TT 146 27 0 tm1 .ready none d1)) (u2:tmp tm1 2=.ptr b2 0) (u3:tmp tm1 3=.ptr b5 0) (g2:h.get b2=some (.cells [.Vd l0] 213)) (g5:h.get b5=some (.cells [I dd] 3)) (hb:HB h) :
 ∃h',Ag TT disp K (e+1) true l1 [I i,I x] h=some (.bool (decide (¬x=z)),h')/\h'.get l0=some (Av TT 18 14 0 tm (if x=z then .done else .ready) (if x=z then some .ret else none) d0)/\h'.get l1=some (Av TT 146 27 0 tm1 (if x=z then .done else .ready) (if x=z then some .ret else none) d1) /\
  h'.get b4=some (.cells [.bool (decide (x=z))] 4)/\As (fun j=>j=l0\/j=b4\/j=l1) h h'/\HB h':=by
 obtain⟨e,rfl⟩:∃k,e=k+1:=⟨e-1,by omega⟩;have C:=f;unfold Av at C;rw[Buo]at C;rw[Amv H (by omega) tm1 h (I i) (I x) C,u2,u3];have J:=hb _ _ f;have E:l1≠l0:=Ay f X (by simp[Av]);have A:∀b o,h.get b=some o->(∀st p,o≠Av TT 146 27 0 tm1 st p d1)->(h.put l1 (Av TT 146 27 0 tm1 .busy none d1)).get b=some o:=fun b o Y hn=>by
  rw[Ae _ (Ay f Y (fun x=>hn _ _ x.symm))];exact Y
 simp only[Agf,Wx f,Zk,dr];have q0:=A _ _ X (by intros;simp[Av]);have q2:=A _ _ g2 (by intros;simp[Av]);have q3:=A _ _ g3 (by intros;simp[Av]);have O:=A _ _ g4 (by intros;simp[Av]);have q5:=A _ _ g5 (by intros;simp[Av]);have U:(h.put l1 (Av TT 146 27 0 tm1 .busy none d1)).get l1=some (Av TT 146 27 0 tm1 .busy none d1):=Af _ _ _;have x1:As (fun j=>j=l0\/j=b4\/j=l1) h (h.put l1 (Av TT 146 27 0 tm1 .busy none d1)):=(As.refl h).Ao (.inl (.inr (.inr rfl))) J _;have F:HB (h.put l1 (Av TT 146 27 0 tm1 .busy none d1)):=hb.put J _;have n1:(h.put l1 (Av TT 146 27 0 tm1 .busy none d1)).next=h.next:=rfl
 generalize h.put l1 (Av TT 146 27 0 tm1 .busy none d1)=h1 at q0 U q2 q3 O q5 x1 F n1⊢;simp only[C0 q2 rfl,C0 q5 rfl,Aa];have hc:Sh (Ag TT disp K (e+1) false) (Ag TT disp K (e+1) true) (.Vd l0) [I dd,I x] h1=Ag TT disp K (e+1) true l0 [I dd,I x] h1:=rfl;rw[hc];obtain⟨h2,r1,L,G,W,r5⟩:=Bjn (K:=K) H (e:=e) (by omega) (i:=dd) (x:=x) q0 t3 t4 q3 O F;rw[r1,Aq];have B:h2.get l1=some (Av TT 146 27 0 tm1 .busy none d1):=As.at W F U (fun y=>by
  rcases y with y|y
  ·exact E y
  ·exact Ay U O (by simp[Av]) y)
 have n2:=W.next
 have x2:As (fun j=>j=l0\/j=b4\/j=l1) h h2:=x1.trans (W.mono fun j hj=>hj.elim .inl (fun y=>.inr (.inl y)));by_cases hx:x=z
 ·simp only[hx,aC,aA,aB,bI]at L G⊢
  simp only[Aa];rw[Nj B];refine⟨_,rfl,?_,Af _ _ _,?_,x2.Ao (.inl (.inr (.inr rfl))) (by omega) _,r5.put (by omega) _⟩
  ·rw[Ae _ E];exact L
  ·rw[Ae _ (Ay B G (by simp[Av]))];exact G
 ·simp only[hx,aE,aA,aB,aY]at L G⊢
  simp only[Aa];rw[Nj B];refine⟨_,rfl,?_,Af _ _ _,?_,x2.Ao (.inl (.inr (.inr rfl))) (by omega) _,r5.put (by omega) _⟩
  ·rw[Ae _ E];exact L
  ·rw[Ae _ (Ay B G (by simp[Av]))];exact G
end
end
section
structure Bc2(h:Ab)(l0 d0:Nat)(tm:Bb)(b3 b4:Nat)(z:Int)(b2:Nat)(found:Bool):Prop where
 lp:h.get l0=some (Av TT 18 14 0 tm (if found then .done else .ready) (if found then some .ret else none) d0)
 c3:h.get b3=some (.cells [I z] 3)
 c4:h.get b4=some (.cells [.bool found] 4)
 c2:h.get b2=some (.cells [.Vd l0] 213)
 hb:HB h
structure Bl1(tm:Bb)(b3 b4:Nat):Prop where
 t3:tmp tm 3=.ptr b3 0
 t4:tmp tm 4=.ptr b4 0
section
variable (H:By disp){z:Int}(T0:Bl1 tm b3 b4){l1 d1:Nat}{b5:Nat}{dd:Int}(u2:tmp tm1 2=.ptr b2 0)(u3:tmp tm1 3=.ptr b5 0)
include H T0 u2 u3
theorem Bkg(he:3<=e)(hn:xs.length<=4096):∀(m i:Nat) (h:Ab) (s:EV) (q':Nat),xs.length-i<m->i<=xs.length->Bc2 h l0 d0 tm b3 b4 z b2 false->h.get l1=some (Av TT 146 27 0 tm1 .ready none d1)->h.get b5=some (.cells [I dd] 3) ->
 Cc h s q' 3 1 xs.length (xs.map I)->(xs.take i).contains z=false ->
 Ok (Jn (Ag TT disp K e false) (Ag TT disp K e true) K m (.Vd l1) s (I xs.length) (I i) h) fun v h'=>v=.tuple []/\Bc2 h' l0 d0 tm b3 b4 z b2 (xs.contains z)/\h'.get l1=some (Av TT 146 27 0 tm1 (if xs.contains z then .done else .ready) (if xs.contains z then some .ret else none) d1)/\As (fun j=>j=l0\/j=b4\/j=l1) h h':=by
 intro m;induction m with
 | zero=>intro i h s q' hm;omega
 | succ m ih=>
  intro i h s q' hm hi L g1 g5 row A;simp only[Jn,I,Ac,Aa];by_cases J:(i:Int)<xs.length
  ·have B:i<xs.length:=by omega
   have C:=row.block (by omega);simp only[J,aB,Aa,Acp];rw[row.ix B,C0 C rfl,bk,bA,aH B,dV,Gu];obtain⟨e,rfl⟩:∃k,e=k+1:=⟨e-1,by omega⟩;have hc:Sh (Ag TT disp K (e+1) false) (Ag TT disp K (e+1) true) (.Vd l1) [I i,I xs[i]] h=Ag TT disp K (e+1) true l1 [I i,I xs[i]] h:=rfl;obtain⟨h2,r1,W,X,Y,r5,r6⟩:=Bg1 (K:=K) H (e:=e) (by omega) (i:=i) (x:=xs[i]) L.lp T0.t3 T0.t4 L.c3 L.c4 g1 u2 u3 L.c2 g5 L.hb;have ad:∀k:EV->Ab->R,Am (Sh (Ag TT disp K (e+1) false) (Ag TT disp K (e+1) true) (.Vd l1) [.int .i64 (i:Int),I xs[i]] h) k=k (.bool (decide (¬xs[i]=z))) h2:=fun k=>by
    have:Sh (Ag TT disp K (e+1) false) (Ag TT disp K (e+1) true) (.Vd l1) [.int .i64 (i:Int),I xs[i]] h=some (.bool (decide (¬xs[i]=z)),h2):=hc.trans r1;rw[this,Aq]
   rw[ad];have f:∀b o,h.get b=some o->(∀st p,o≠Av TT 18 14 0 tm st p d0)->(∀st p,o≠Av TT 146 27 0 tm1 st p d1)->(∀v,o≠.cells [v] 4)->h2.get b=some o:=fun b o E n0 n1 n4=>As.at r5 L.hb E fun y=>by
    rcases y with rfl|rfl|rfl
    ·rw[L.lp]at E;cases E;exact n0 _ _ rfl
    ·rw[L.c4]at E;cases E;exact n4 _ rfl
    ·rw[g1]at E;cases E;exact n1 _ _ rfl
   have k3:=f _ _ L.c3 (by intros;simp[Av]) (by intros;simp[Av]) (by intros;simp);have k2:=f _ _ L.c2 (by intros;simp[Av]) (by intros;simp[Av]) (by intros;simp);have k5:=f _ _ g5 (by intros;simp[Av]) (by intros;simp[Av]) (by intros;simp);by_cases G:xs[i]=z
   ·have O:xs.contains z=true:=by
     rw[List.contains_iff_mem,<-G];exact av B
    simp only[G,bI,aB]at W X Y;simp only[G,aC,aA,Aa];exact .ret ⟨rfl,by rw[O];exact⟨W,k3,Y,k2,r6⟩,by rw[O];exact X,r5⟩
   ·simp only[G,aY,aA]at W X Y
    simp only[G,aE,aB,Aa,Abx,Ac];rw[Ci];have F:Cc h2 s q' 3 1 xs.length (xs.map I):=row.frame fun _=>by
     rw[f _ _ C (by intros;simp[Av]) (by intros;simp[Av]) (by intros;simp),C]
    have U:(xs.take (i+1)).contains z=false:=by
     rw[cy B];simp only[List.contains_eq_mem,bP,aP,cm]at A⊢;intro y;rcases y with y|y
     ·exact A y
     ·exact G y.symm
    refine(ih (i+1) h2 s q' (by omega) (by omega) ⟨W,k3,Y,k2,r6⟩ X k5 F U).mono ?_;rintro v h' ⟨a1,a2,a3,a4⟩;exact⟨a1,a2,a3,r5.trans a4⟩
  ·have:i=xs.length:=by omega
   subst this;simp only[J,aA,Aa];rw[cL]at A;exact .ret ⟨rfl,by rw[A];exact L,by rw[A];exact g1,As.refl _⟩
theorem Bp8(he:3<=e)(hK:5000<K){F q c:Nat}(G:h.get F=some (.cells [.ptr q 0] 199))(hq:h.get q=some (.cells [.chan c] 266))(hc:h.get c=some (.chan cap (xs.map I)))(B:xs.length<=cap)(C:cap<=4096)
 (L:Bc2 h l0 d0 tm b3 b4 z b2 false) (J:h.get l1=some (Av TT 146 27 0 tm1 .ready none d1)) (O:h.get b5=some (.cells [I dd] 3)) :
 Ok (Ag TT disp K (e+1) false 199 [.Vd l1,.ptr F 0] h) fun v h'=>Bc2 h' l0 d0 tm b3 b4 z b2 (xs.contains z)/\h'.get l1=some (Av TT 146 27 0 tm1 (if xs.contains z then .done else .ready) (if xs.contains z then some .ret else none) d1) /\
  (∀i,i<h.next->¬(i=l0\/i=b4\/i=l1)->h'.get i=h.get i)/\As (fun j=>j=c\/j=l0\/j=b4\/j=l1) h h':=by
 rw[Aop H (by omega)];simp only[Ai1,C0 G rfl,Aa];refine(A4a hq hc B C L.hb hK).Am ?_;rintro s E ⟨q',y⟩;rw[y.row.Hf];have same:=y.same hc;have f:∀i o,h.get i=some o->E.get i=some o:=fun i o g=>by rw[same i (L.hb _ _ g)];exact g
 have U:Bc2 E l0 d0 tm b3 b4 z b2 false:=⟨f _ _ L.lp,f _ _ L.c3,f _ _ L.c4,f _ _ L.c2,y.hb⟩;refine(Bkg (K:=K) H T0 u2 u3 he (by omega) K 0 E s q' (by omega) (by omega) U (f _ _ J) (f _ _ O) y.row (by simp)).mono ?_;rintro v h' ⟨_,W,a3,a4⟩;refine⟨W,a3,fun i A hn=>by rw[a4.get i (aN A y.chg.next) hn,same i A],?_⟩;exact(y.chg.mono fun i A=>.inl A).trans (a4.mono fun i A=>.inr A)
end
end
section
def hasB(ps:Nat->List Int)(n:Nat)(z:Int):Bool:=(List.range n).any fun d=>(ps d).contains z
theorem Bju(ps:Nat->List Int)(n:Nat)(z:Int):hasB ps (n+1) z=(hasB ps n z||(ps n).contains z):=by
 unfold hasB;rw[dJ,List.any_append];simp
theorem Bi5{z:Int}:hasB ps n z=true↔∃d,d<n/\z∈ps d:=by
 unfold hasB;simp
theorem Brj{z:Int}(hd:d<n)(h:(ps d).contains z=true):hasB ps n z=true:=Bi5.2 ⟨d,hd,List.contains_iff_mem.1 h⟩
structure Mid(h0 h:Ab)(C:Nat->Prop)(l0 d0:Nat)(tm:Bb)(b3 b4:Nat)(z:Int)(b2:Nat)(found:Bool):Prop where
 kp:Kp C h0 h
 look:Bc2 h l0 d0 tm b3 b4 z b2 found
 cd:h.get d0=some (.deferred true)
 n0:h0.next<=l0
 n4:h0.next<=b4
 nd:h0.next<=d0
section
variable (H:By disp){p:Nat}{q c:Nat->Nat}{g:Gm}(P:E3 h0 p ql n q c g ps)(hb0:HB h0)(hps:∀d,d<n->(ps d).length<=g.Z.toNat)(hZ:g.Z<=4096)(hn:n<=64)
variable{z:Int}(T0:Bl1 tm b3 b4)
include H P hb0 hps hZ hn T0
theorem Bm9(he:4<=e)(hK:5000<K):∀(m i:Nat) (h:Ab) (t1:Bb) (ds:List Nat),n-i<m->i<=n->Mid h0 h (fun x=>∃d,d<n/\x=c d) l0 d0 tm b3 b4 z b2 false->tmp t1 2=.ptr b2 0 ->
 ds.Nodup->(∀d∈ds,h.get d=some (.deferred true)/\h0.next<=d/\d≠d0)->hasB ps i z=false ->
 Ok (L6 (Ag TT disp K e false) (Ag TT disp K e true) K m t1 (.slice ql 0 n n true) (I n) (I i) h ds) fun v h'=>Mid h0 h' (fun x=>∃d,d<n/\x=c d) l0 d0 tm b3 b4 z b2 (hasB ps n z):=by
 intro m;induction m with
 | zero=>intro i h t1 ds hm;omega
 | succ m ih=>
  intro i h t1 ds hm hi M u2 af aa ag;have fin:∀(h2:Ab) (dl:List Nat) (found:Bool),found=hasB ps n z->Mid h0 h2 (fun x=>∃d,d<n/\x=c d) l0 d0 tm b3 b4 z b2 found->dl.Nodup->(∀d∈dl,h2.get d=some (.deferred true)/\h0.next<=d/\d≠d0) ->
   Ok (Fi dl h2 fun h=>some (EV.tuple [],h)) fun v h'=>Mid h0 h' (fun x=>∃d,d<n/\x=c d) l0 d0 tm b3 b4 z b2 (hasB ps n z):=by
   rintro h2 dl found rfl M2 a2 L;refine Ok.unwind a2 (fun d hd=>(L d hd).1) M2.look.hb fun h3 ch b6=>.ret ?_
   have nk:∀b o,h2.get b=some o->o≠.deferred true->¬(b∈dl):=fun b o F f hb=>by rw[(L b hb).1]at F;cases F;exact f rfl
   have a:∀b o,h2.get b=some o->o≠.deferred true->h3.get b=some o:=fun b o F f=>As.at ch M2.look.hb F (nk b o F f)
   refine⟨M2.kp.A64 ch fun i hi=>(L i hi).2.1,⟨a _ _ M2.look.lp (by simp[Av]),a _ _ M2.look.c3 (by simp),a _ _ M2.look.c4 (by simp),a _ _ M2.look.c2 (by simp),ch.hb M2.look.hb⟩,As.at ch M2.look.hb M2.cd (fun y=>(L _ y).2.2 rfl),M2.n0,M2.n4,M2.nd⟩
  simp only[L6,I,Ac,Aa];by_cases ah:(i:Int)<n
  ·have A:i<n:=by omega
   have a5:∀b o,h0.get b=some o->h.get b=some o:=fun b o F=>M.kp.at hb0 F
   have P1:=P.ext a5;simp only[ah,aB,Aa,Af6];rw[P1.rowAt.ix A,P1.A90 A]
   try simp only[Aa]
   refine Ok.st1 (Ad _ _) rfl rfl (by show 0<1;decide) ?_;have b8:=M.kp.chg.next
   have x1:Ext h ((h.new (.cells [.int .i64 0] 3)).put h.next (.cells [EV.int .i64 (i:Int)] 3)):=(As.new _ _:Ext h _).Ao (.inr (aD _)) (aR _) _;have g5:((h.new (.cells [.int .i64 0] 3)).put h.next (.cells [EV.int .i64 (i:Int)] 3)).get h.next=some (.cells [I i] 3):=Af _ _ _
   simp only[List.set];generalize (h.new (.cells [.int .i64 0] 3)).put h.next (.cells [EV.int .i64 (i:Int)] 3)=W at x1 g5⊢
   have a8:=x1.hb M.look.hb;have ca:=x1.next
   simp only[Adb,Aa];have x2:Ext h (W.new (.cells [.ptr (q i) 0] 199)):=x1.Da _;have g6:(W.new (.cells [.ptr (q i) 0] 199)).get W.next=some (.cells [.ptr (q i) 0] 199):=Ad _ _
   have ai:(W.new (.cells [.ptr (q i) 0] 199)).get h.next=some (.cells [I i] 3):=by rw[Az _ (a8 _ _ g5)];exact g5
   have n2:W.next<(W.new (.cells [.ptr (q i) 0] 199)).next:=aR _
   generalize W.new (.cells [.ptr (q i) 0] 199)=h2 at x2 g6 ai n2⊢;have bb:=x2.hb M.look.hb;generalize ad:(((((((t1.put 13 (some (EV.bool true))).put 14 (some (EV.int .i64 (i:Int)))).put 15 (some (EV.ptr ql (i*1)))).put 16 (some (EV.ptr (q i) 0))).put 3 (some (EV.ptr h.next 0))).put 4 (some (EV.ptr (q i) 0))).put 17 (some (EV.ptr (q i) 0))).put 18 (some (EV.func 199 [] [EV.ptr W.next 0]))=t2;have v2:tmp t2 2=.ptr b2 0:=by rw[<-ad];simp only[G6,reduceIte,Nat.reduceEqDiff,u2]
   have v3:tmp t2 3=.ptr h.next 0:=by rw[<-ad];simp only[G6,reduceIte,Nat.reduceEqDiff]
   have bf:∀w,tmp ((t2.put 26 (some w)).put 12 (some w)) 2=.ptr b2 0:=fun w=>by simp only[G6,reduceIte,Nat.reduceEqDiff,v2]
   clear ad;refine Ok.range ?_;have x3:Ext h (Ce TT 146 27 0 t2 h2):=x2.trans Hh;have al:=x3.hb M.look.hb;have C:∀b o,h.get b=some o->(Ce TT 146 27 0 t2 h2).get b=some o:=fun b o F=>x3.at M.look.hb F
   have X:∀b o,h2.get b=some o->(Ce TT 146 27 0 t2 h2).get b=some o:=fun b o F=>Ext.at Hh bb F
   have L3:Bc2 (Ce TT 146 27 0 t2 h2) l0 d0 tm b3 b4 z b2 false:=⟨C _ _ M.look.lp,C _ _ M.look.c3,C _ _ M.look.c4,C _ _ M.look.c2,al⟩;have P3:=P1.ext C;obtain⟨e,rfl⟩:∃k,e=k+1:=⟨e-1,by omega⟩;refine(Bp8 (K:=K) H T0 (l1:=h2.next+1) (d1:=h2.next) v2 v3 (e:=e) (by omega) hK (X _ _ g6) (P3.que i A) (P3.chan i A) (hps i A) (by omega) L3 Hp (X _ _ ai)).mono ?_;rintro v h4 ⟨L4,E,B,aq⟩;have cf:=aq.next
   have cl:h2.next+1<(Ce TT 146 27 0 t2 h2).next:=by rw[A2h];omega
   have bj:Kp (fun x=>∃d,d<n/\x=c d) h0 h4:=by
    refine⟨(M.kp.chg.trans (Ext.to x3)).then aq ?_,fun j hj=>?_⟩
    ·rintro j (rfl|rfl|rfl|rfl) hl
     ·exact⟨i,A,rfl⟩
     ·have:=M.n0;omega
     ·have:=M.n4;omega
     ·have:=x2.next;omega
    ·have bn:j<(Ce TT 146 27 0 t2 h2).next:=by have:=x3.next;omega
     rw[B j bn (by rintro(rfl|rfl|rfl)<;>(have:=M.n0;have:=M.n4;have:=x2.next;omega)),x3.get j (by omega) id];exact M.kp.same j hj
   have bo:h4.get h2.next=some (.deferred true):=by
    rw[B _ (by omega) ?_]
    ·exact Jd
    ·rintro(y|y|y)
     ·have:=M.look.hb _ _ M.look.lp;omega
     ·have:=M.look.hb _ _ M.look.c4;omega
     ·omega
   have G:∀d,h.get d=some (.deferred true)->h4.get d=some (.deferred true):=fun d gd=>by
    have au:=C _ _ gd;rw[B d (al _ _ au) ?_]
    ·exact au
    ·rintro(rfl|rfl|rfl)
     ·rw[M.look.lp]at gd;cases gd
     ·rw[M.look.c4]at gd;cases gd
     ·have:=M.look.hb _ _ gd;omega
   have bp:∀o,h4.get (h2.next+1)=some o->∀b o',h4.get b=some o'->(∀st p,o'≠Av TT 146 27 0 t2 st p h2.next)->b≠h2.next+1:=by
    intro o ho b o' J f e';subst e';rw[E]at J;cases J;exact f _ _ rfl
   have O:∀(p5:Option Code),Mid h0 (h4.put (h2.next+1) (Av TT 146 27 0 t2 .exhausted p5 h2.next)) (fun x=>∃d,d<n/\x=c d) l0 d0 tm b3 b4 z b2 ((ps i).contains z):=by
    intro p5;have aw:h2.next+1<h4.next:=by omega
    have pn:∀b o',h4.get b=some o'->(∀st p,o'≠Av TT 146 27 0 t2 st p h2.next)->(h4.put (h2.next+1) (Av TT 146 27 0 t2 .exhausted p5 h2.next)).get b=some o':=fun b o' J f=>by
     rw[Ae _ (cT (bp _ E b o' J f))];exact J
    refine⟨bj.Ao (by have:=x2.next;omega) aw _,⟨pn _ _ L4.lp (by intros;simp[Av]),pn _ _ L4.c3 (by intros;simp[Av]),pn _ _ L4.c4 (by intros;simp[Av]),pn _ _ L4.c2 (by intros;simp[Av]),L4.hb.put aw _⟩,pn _ _ (G _ M.cd) (by intros;simp[Av]),M.n0,M.n4,M.nd⟩
   have Y:∀(p5:Option Code),∀d∈h2.next::ds,(h4.put (h2.next+1) (Av TT 146 27 0 t2 .exhausted p5 h2.next)).get d=some (.deferred true)/\h0.next<=d/\d≠d0:=by
    intro p5 d hd;rcases bW.1 hd with rfl|hd
    ·exact⟨by rw[Ae _];exact bo,by have:=x2.next;omega,by have:=M.look.hb _ _ M.cd;omega⟩
    ·obtain⟨a,b,c'⟩:=aa d hd
     exact⟨by rw[Ae _ (by have:=M.look.hb _ _ a;omega)];exact G _ a,b,c'⟩
   have ay:(h2.next::ds).Nodup:=cV.2 ⟨fun hd=>by have:=M.look.hb _ _ (aa _ hd).1;omega,af⟩;cases U:(ps i).contains z with
   | true=>
    rw[U]at E O;refine .inr ⟨E,?_⟩;exact fin _ _ true (Brj A U).symm (O _) ay (Y _)
   | false=>
    rw[U]at E O;refine .inl ⟨E,?_⟩;simp only[Qk,Ac];rw[Ci];exact ih (i+1) _ _ _ (by omega) (by omega) (O _) (bf _) ay (Y _) (by rw[Bju,ag,U];rfl)
  ·have:i=n:=by omega
   subst this;simp only[ah,aA,Aa];exact fin h ds false ag.symm M af aa
end
section
variable (H:By disp){p:Nat}{q c:Nat->Nat}{g:Gm}(P:E3 h0 p ql n q c g ps)(hb0:HB h0)(hps:∀d,d<n->(ps d).length<=g.Z.toNat)(hZ:g.Z<=4096)(hn:n<=64)
include H P hb0 hps hZ hn
theorem Blq(hd:7<=d)(hK:5000<K)(z:Int):Ok (Ag TT disp K d false 18 [.ptr p 0,I z] h0) fun v h'=>v=.bool (hasB ps n z)/\Kp (fun x=>∃d,d<n/\x=c d) h0 h'/\HB h':=by
 obtain⟨e,rfl⟩:∃k,d=k+2:=⟨d-2,by omega⟩;rw[Axe H (by omega)];simp only[Asq,I,Aa,Aju];have x1:Ext h0 (((h0.new (.cells [.int .i64 z] 3)).new (.cells [.bool false] 4)).new (.cells [.ptr p 0] 43)):=((As.new _ _).Da _).Da _;have n1:(((h0.new (.cells [.int .i64 z] 3)).new (.cells [.bool false] 4)).new (.cells [.ptr p 0] 43)).next=h0.next+3:=rfl
 have C:(((h0.new (.cells [.int .i64 z] 3)).new (.cells [.bool false] 4)).new (.cells [.ptr p 0] 43)).get (h0.next+2)=some (.cells [.ptr p 0] 43):=Ad _ _;have g4:(((h0.new (.cells [.int .i64 z] 3)).new (.cells [.bool false] 4)).new (.cells [.ptr p 0] 43)).get (h0.next+1)=some (.cells [.bool false] 4):=by
  rw[Az _ (aR _)];exact Ad _ _
 have g3:(((h0.new (.cells [.int .i64 z] 3)).new (.cells [.bool false] 4)).new (.cells [.ptr p 0] 43)).get h0.next=some (.cells [I z] 3):=by
  rw[Az _ (show h0.next<h0.next+2 by omega),Az _ (show h0.next<h0.next+1 by omega)];exact Ad _ _
 have ag:((h0.new (.cells [.int .i64 z] 3)).new (.cells [.bool false] 4)).next=h0.next+2:=rfl
 have ah:(h0.new (.cells [.int .i64 z] 3)).next=h0.next+1:=rfl
 rw[ag,ah];generalize ((h0.new (.cells [.int .i64 z] 3)).new (.cells [.bool false] 4)).new (.cells [.ptr p 0] 43)=f at x1 n1 C g4 g3⊢;have L:=x1.hb hb0;generalize O:(((((Tr.nil.put 0 (some (EV.ptr p 0))).put 1 (some (EV.int .i64 z))).put 3 (some (EV.ptr h0.next 0))).put 4 (some (EV.ptr (h0.next+1) 0))).put 7 (some (EV.ptr p 0))).put 8 (some (EV.func 146 [] [EV.ptr (h0.next+2) 0]))=tm;have T0:Bl1 tm h0.next (h0.next+1):=⟨by rw[<-O];simp only[G6,reduceIte,Nat.reduceEqDiff],by rw[<-O];simp only[G6,reduceIte,Nat.reduceEqDiff]⟩
 clear O;refine Ok.range ?_;rw[Asj H (by omega)];simp only[Anm,Aa];have x2:Ext f (Ce TT 18 14 0 tm f):=Hh;have Y:=x2.hb L;have ai:Q2 213 (.Vd (f.next+1)) (Ce TT 18 14 0 tm f)=fun(k:EV->Ab->R)=>k (.ptr (f.next+2) 0) ((Ce TT 18 14 0 tm f).new (.cells [.Vd (f.next+1)] 213)):=rfl
 rw[ai];have x3:Ext f ((Ce TT 18 14 0 tm f).new (.cells [.Vd (f.next+1)] 213)):=x2.Da _;have k2:((Ce TT 18 14 0 tm f).new (.cells [.Vd (f.next+1)] 213)).get (f.next+2)=some (.cells [.Vd (f.next+1)] 213):=Ad _ _;have kl:((Ce TT 18 14 0 tm f).new (.cells [.Vd (f.next+1)] 213)).get (f.next+1)=some (Av TT 18 14 0 tm .ready none f.next):=by rw[Az _ (Y _ _ Hp)];exact Hp
 have kd:((Ce TT 18 14 0 tm f).new (.cells [.Vd (f.next+1)] 213)).get f.next=some (.deferred true):=by rw[Az _ (Y _ _ Jd)];exact Jd
 generalize (Ce TT 18 14 0 tm f).new (.cells [.Vd (f.next+1)] 213)=h3 at x3 k2 kl kd⊢;have aj:=x3.hb L;have E:∀b o,f.get b=some o->h3.get b=some o:=fun b o C=>x3.at L C
 have P3:E3 h3 p ql n q c g ps:=P.ext fun b o C=>E _ _ (x1.at hb0 C)
 simp only[C0 (E _ _ C) rfl,Aa,P3.list];have M3:Mid h0 h3 (fun x=>∃d,d<n/\x=c d) (f.next+1) f.next tm h0.next (h0.next+1) z (f.next+2) false:=
  ⟨Ext.kp (x1.trans x3),⟨kl,E _ _ g3,E _ _ g4,k2,aj⟩,kd,by omega,by omega,by omega⟩
 refine(Bm9 (K:=K) H P hb0 hps hZ hn T0 (e:=e) (by omega) hK K 0 h3 _ [] (by omega) (by omega) M3 (by simp only[G6,reduceIte,Nat.reduceEqDiff]) dF (fun d hd=>by cases hd) rfl).mono ?_;rintro v h4 A;have aa:=A.look.hb _ _ A.look.lp;have nl:∀b o st G,h4.get b=some o->(∀st p,o≠Av TT 18 14 0 tm st p f.next)->(h4.put (f.next+1) (Av TT 18 14 0 tm st G f.next)).get b=some o:=fun b o st G C al=>by
  rw[Ae _ (Ay A.look.lp C (fun y=>al _ _ y.symm))];exact C
 have J:∀st G,Kp (fun x=>∃d,d<n/\x=c d) h0 (h4.put (f.next+1) (Av TT 18 14 0 tm st G f.next)):=fun st G=>A.kp.Ao (by omega) aa _
 have F:∀st G,HB (h4.put (f.next+1) (Av TT 18 14 0 tm st G f.next)):=fun st G=>A.look.hb.put aa _
 have j:∀(B:Ab) (b:Bool),B.get (h0.next+1)=some (.cells [.bool b] 4)->Ij TT [.c (.ptr (h0.next+1) 0) 4] B=some (.bool b,B):=by
  intro B b hg;have hr:I5 B (h0.next+1) 0 1=some [.bool b]:=by unfold I5;rw[hg];rfl
  unfold Ij;simp only[Azs,show TT.size 4=some 1 by kernel_rfl,show TT.agg 4=some false by kernel_rfl,hr]
 cases hf:hasB ps n z with
 | true=>
  rw[hf]at A;refine .inr ⟨A.look.lp,?_⟩;refine Ok.unwind (cV.2 ⟨by simp,dF⟩) (fun d hd=>by rw[aP]at hd;subst hd;exact nl _ _ _ _ A.cd (by intros;simp[Av])) (F _ _) fun B U ao=>?_
  have W:B.get (h0.next+1)=some (.cells [.bool true] 4):=As.at U (F _ _) (nl _ _ _ _ A.look.c4 (by intros;simp[Av])) (by simp;omega);rw[j B true W];exact .ret ⟨rfl,(J _ _).A64 U fun i hi=>by rw[aP]at hi;omega,U.hb (F _ _)⟩
 | false=>
  rw[hf]at A;refine .inl ⟨A.look.lp,?_⟩;simp only[Aaq,dr];refine Ok.st1 (nl _ _ _ _ A.look.c4 (by intros;simp[Av])) rfl rfl (by show 0<1;decide) ?_;have ab:h0.next+1<(h4.put (f.next+1) (Av TT 18 14 0 tm .exhausted none f.next)).next:=A.look.hb _ _ A.look.c4
  have X:HB ((h4.put (f.next+1) (Av TT 18 14 0 tm .exhausted none f.next)).put (h0.next+1) (.cells ([EV.bool false].set 0 (.bool false)) 4)):=(F _ _).put ab _;refine Ok.unwind (cV.2 ⟨by simp,dF⟩) (fun d hd=>by rw[aP]at hd;subst hd;rw[Ae _];exact nl _ _ _ _ A.cd (by intros;simp[Av])) X fun B U ao=>?_
  have W:B.get (h0.next+1)=some (.cells [.bool false] 4):=As.at U X (Af _ _ _) (by simp;omega);rw[j B false W];exact .ret ⟨rfl,((J _ _).Ao (by omega) ab _).A64 U fun i hi=>by rw[aP]at hi;omega,U.hb X⟩
end
end
section
def Ex(g:Gm)(z:Int):Int:=if z<0\/g.D*g.Z<=z then -1 else z/g.Z
theorem Js {g:Gm}(s:Sm g)(z:Int)(G : -9223372036854775808<=z/\z<=9223372036854775807)(h:Ab):Ok (Es K (gV g) (I z) h) fun v h'=>v=I (Ex g z)/\Ext h h':=by
 have:=s.d0;have:=s.d1;have:=s.z0;have:=s.z1;obtain⟨J,L⟩:=Oi (a:=g.D) (b:=g.Z) (A:=8) (B:=64) (by omega) (by omega) (by omega) (by omega);simp only[Es,gV,Aa,I,Ac];have C:(h.new (.cells (gL g) 23)).get h.next=some (.cells (gL g) 23):=Ad _ _
 have hn:h.next<(h.new (.cells (gL g) 23)).next:=aR _
 have y:Ext h (h.new (.cells (gL g) 23)):=As.new _ _;generalize h.new (.cells (gL g) 23)=E at C hn y⊢;unfold Ex;by_cases F:z<0
 ·simp only[F,aB,Aa,Ac,Vb]
  exact .ret ⟨by rw[aQ (.inl trivial)],y⟩
 ·simp only[F,aA,Aa,Ac,Cz C rfl,Aj (show(gL g).length=6 from rfl)]
  rw[show EV.agg (gL g)=gV g from rfl,N2 s,Aq];simp only[I,Ac,Vb];by_cases h2:g.D*g.Z<=z
  ·simp only[h2,aB,Aa]
   exact .ret ⟨by rw[aQ (.inr trivial)],y.Da _⟩
  ·have f:(E.new (.cells (gL g) 23)).get h.next=some (.cells (gL g) 23):=by rw[Az _ hn];exact C
   have j:Ext h (E.new (.cells (gL g) 23)):=y.Da _;generalize E.new (.cells (gL g) 23)=hc at f j⊢;simp only[h2,aA,Aa,Adz,C0 f rfl,gL,I];rw[Bob (by omega) (by omega) (by omega)];exact .ret ⟨by rw[aM (by rintro(x|x)<;>exact x)],j⟩
def upd(ps:Nat->List Int)(d:Nat)(l:List Int):Nat->List Int:=fun e=>if e=d then l else ps e
def Awt(n:Nat)(c:Nat->Nat):Nat->Prop:=fun x=>∃d,d<n/\x=c d
def A8t:Ca->Prop
 | .chan ..=>False
 | _=>True
theorem E3.Brt{p:Nat}{q c:Nat->Nat}{g:Gm}(P:E3 h p ql n q c g ps){b:Nat}(f:h.get b=some o)(j:A8t o):¬Awt n c b:=by
 rintro⟨d,hd,rfl⟩;rw[P.chan d hd]at f;cases f;exact j
theorem E3.put{p:Nat}{q c:Nat->Nat}{g:Gm}(P:E3 h p ql n q c g ps)(hd:d<n)(l:List Int):E3 (h.put (c d) (.chan g.Z.toNat (l.map I))) p ql n q c g (upd ps d l):=by
 have ne:∀b o,h.get b=some o->A8t o->(h.put (c d) (.chan g.Z.toNat (l.map I))).get b=some o:=fun b o j y=>by
  rw[Ae _ (fun e=>P.Brt j y ⟨d,hd,e.symm⟩)];exact j
 refine⟨P.pos,ne _ _ P.Gh trivial,ne _ _ P.row trivial,fun e he=>ne _ _ (P.que e he) trivial,fun e he=>?_,P.inj⟩;unfold upd;by_cases f:e=d
 ·subst f;rw[aQ rfl];exact Af _ _ _
 ·rw[aM f,Ae _ (fun x=>f (P.inj _ _ he hd x.symm))];exact P.chan e he
theorem E3.kp{p:Nat}{q c:Nat->Nat}{g:Gm}(P:E3 h p ql n q c g ps)(hb:HB h)(k:Kp S h h'):E3 h' p ql n q c g ps:=P.ext fun i o g=>k.at hb g
structure Sz(n:Nat)(g:Gm)(ps:Nat->List Int):Prop where
 nd:n=g.D.toNat
 sm:Sm g
 cap:∀d,d<n->(ps d).length<=g.Z.toNat
theorem Sz.bd{g:Gm}(z:Sz n g ps):n<=8/\g.Z<=64/\(n:Int)=g.D:=by
 have:=z.nd;have:=z.sm.d0;have:=z.sm.d1;have:=z.sm.z1;omega
theorem Sz.small{g:Gm}(z:Sz n g ps):Bd8 n ps:=by
 obtain⟨a,b,_⟩:=z.bd;exact⟨by omega,fun d hd=>by have:=z.cap d hd;omega⟩
theorem Sz.upd{g:Gm}(z:Sz n g ps){l:List Int}(f:l.length<=g.Z.toNat):Sz n g (upd ps d l):=
 ⟨z.nd,z.sm,fun e he=>by unfold Ev.upd;split;exact f;exact z.cap e he⟩
def As2(g:Gm)(n:Nat)(ps:Nat->List Int)(z:Int):Int × (Nat->List Int):=
 if Ex g z<0 then(13,ps)else if hasB ps n z then(16,ps)else
  if(ps (Ex g z).toNat).length<g.Z.toNat then(0,upd ps (Ex g z).toNat (ps (Ex g z).toNat++[z]))else(17,ps)
theorem Afi {g:Gm}(s:Sm g)(z:Int):Ex g z = -1\/(0<=Ex g z/\Ex g z<g.D/\Ex g z=z/g.Z/\0<=z/\z<g.D*g.Z):=by
 have:=s.z0;unfold Ex;split
 ·exact .inl rfl
 ·refine .inr ⟨Int.ediv_nonneg (by omega) (by omega),Int.ediv_lt_of_lt_mul (by omega) (by omega),rfl,by omega,by omega⟩
section
variable (H:By disp){p:Nat}{q c:Nat->Nat}{g:Gm}(P:E3 h p ql n q c g ps)(hb:HB h)(Z:Sz n g ps)(hK:5000<K)
include P hb Z hK
theorem A8v(d:Int):Ok (Pf K (.ptr p 0) (I d) h) fun v h'=>As (Awt n c) h h'/\HB h'/\∃x e f,v=.tuple [I x,I e]/\E3 h' p ql n q c g f/\Sz n g f /\
 ((d<0\/(n:Int)<=d)/\x=0/\e=13/\f=ps\/(0<=d/\d<n/\ps d.toNat = []/\x=0/\e=15/\f=ps)\/(0<=d/\d<n/\e=0/\∃r,ps d.toNat=x::r/\f=upd ps d.toNat r)):=by
 simp only[Pf,I,Ac,Aa];by_cases y:d<0
 ·simp only[y,aB,Aa,Ac,Xw]
  exact .ret ⟨As.refl _,hb,0,13,ps,rfl,P,Z,.inl ⟨.inl trivial,rfl,rfl,rfl⟩⟩
 ·simp only[y,aA,Aa,Ac,P.list,Xw]
  by_cases h2:(n:Int)<=d
  ·simp only[h2,aB,Aa]
   exact .ret ⟨As.refl _,hb,0,13,ps,rfl,P,Z,.inl ⟨.inr trivial,rfl,rfl,rfl⟩⟩
  ·obtain⟨d,rfl⟩:=aZ (show 0<=d by omega)
   have hd:d<n:=by omega
   simp only[h2,aA,Aa,Ai2,P.list];rw[P.rowAt.ix hd];simp only[P.A90 hd];cases j:ps d with
   | nil=>
    rw[take_nil (P.que _ hd) (P.chan _ hd) j];simp only[Aa];exact .ret ⟨As.refl _,hb,0,15,ps,rfl,P,Z,.inr (.inl ⟨by omega,by omega,j,rfl,rfl,rfl⟩)⟩
   | cons x r=>
    rw[take_cons (P.que _ hd) (P.chan _ hd) j];simp only[Aa];have lt:=hb _ _ (P.chan _ hd);refine .ret ⟨(As.refl h).Ao (.inl ⟨_,hd,rfl⟩) lt _,hb.put lt _,x,0,upd ps d r,rfl,P.put hd r,Z.upd ?_,.inr (.inr ⟨by omega,by omega,rfl,r,j,rfl⟩)⟩;have:=Z.cap _ hd;rw[j]at this;simp at this;omega
include H
theorem Bgn(hd:8<=d)(z:Int)(O : -9223372036854775808<=z/\z<=9223372036854775807):Ok (Ag TT disp K d false 67 [.ptr p 0,I z] h) fun v h'=>As (Awt n c) h h'/\HB h'/\v=I (As2 g n ps z).1/\E3 h' p ql n q c g (As2 g n ps z).2/\Sz n g (As2 g n ps z).2:=by
 obtain⟨e,rfl⟩:∃k,d=k+1:=⟨d-1,by omega⟩;obtain⟨b1,b2,b3⟩:=Z.bd;rw[Au0 H (by omega)];simp only[Apq,Aa,P.Bdk];refine(Js Z.sm z O h).Am ?_;rintro _ U ⟨rfl,C⟩;have A:=C.hb hb;have E:=P.ext fun i o g=>C.at hb g
 simp only[I,Ac];unfold As2;rcases Afi Z.sm z with F|⟨d0,d1,d2,d3,d4⟩
 ·rw[F]
  simp only[show(-1:Int)<0 by decide,aB,Aa,bI];exact .ret ⟨Ext.to C,A,rfl,E,Z⟩
 ·have G:¬Ex g z<0:=by omega
  simp only[G,aA,Aa,aY];refine(Blq (K:=K) H E A Z.cap (by omega) (by omega) (d:=e) (by omega) hK z).Am ?_;rintro _ h2 ⟨rfl,L,y⟩;have j:=E.kp A L;have B:As (Awt n c) h h2:=(Ext.to C).trans L.chg;cases W:hasB ps n z with
  | true=>
   simp only[Aa,bI];exact .ret ⟨B,y,rfl,j,Z⟩
  | false=>
   have f:(Ex g z).toNat<n:=by omega
   simp only[Aa,Ajd,j.list];rw[show Ex g z=((Ex g z).toNat:Int) by omega,j.rowAt.ix f];simp only[j.A90 f,bG];have lt:=y _ _ (j.chan _ f);by_cases J:(ps (Ex g z).toNat).length<g.Z.toNat
   ·rw[A6i (j.que _ f) (j.chan _ f) z J,Aq]
    rw[aQ J];refine .ret ⟨B.Ao (.inl ⟨_,f,rfl⟩) lt _,y.put lt _,rfl,j.put f _,Z.upd ?_⟩;rw[aG];simp;omega
   ·rw[Bsz (j.que _ f) (j.chan _ f) z (by omega),Aq]
    rw[aM J];exact .ret ⟨B,y,rfl,j,Z⟩
end
end
section
def Ts(z:Int)(xs:List Int):List Int:=xs.filter fun x=>decide (¬x=z)
theorem Bm1(z x:Int)(r:List Int):Ts z (x::r)=(if x=z then[]else[x])++Ts z r:=by
 unfold Ts;rw[fK];by_cases h:x=z<;>simp[h]
theorem Bdv(z:Int)(a b:List Int):Ts z (a++b)=Ts z a++Ts z b:=eI ..
theorem Bgi(z:Int)(xs:List Int):(Ts z xs).length<=xs.length:=eJ _ _
section
variable (H:By disp)(hK:5000<K)
include H hK
theorem Bih(he:1<=e){q c:Nat}{z:Int}(y:h0.get q=some (.cells [.chan c] 266))(f:∃b,h0.get c=some (.chan cap b))(F:h0.get b3=some (.cells [I z] 3))(ab:xs.length<=cap)(ae:cap<=4096)(hb0:HB h0):∀(m i:Nat) (h:Ab),xs.length-i<m->i<=xs.length ->
 h.get c=some (.chan cap ((xs.drop i++Ts z (xs.take i)).map I))->As (fun j=>j=c) h0 h->HB h ->
 Ok (Kr (Ag TT disp K e false) (Ag TT disp K e true) K m (.ptr q 0) (.func 265 [] [.ptr b3 0]) (I ((i:Int)-(Ts z (xs.take i)).length)) (I xs.length) (I i) h) fun v h'=>v=I ((xs.length:Int)-(Ts z xs).length)/\h'.get c=some (.chan cap ((Ts z xs).map I))/\As (fun j=>j=c) h0 h'/\HB h':=by
 obtain⟨b0,f⟩:=f;have G:q≠c:=Ay y f (by simp);have X:b3≠c:=Ay F f (by simp);have lc:=hb0 _ _ f;intro m;induction m with
 | zero=>intro i h hm;omega
 | succ m ih=>
  intro i h hm hi hc x hb;simp only[Kr,I,Ac,Aa];by_cases J:(i:Int)<xs.length
  ·have L:i<xs.length:=by omega
   have hq:h.get q=some (.cells [.chan c] 266):=As.at x hb0 y G;have O:c<h.next:=aN lc x.next
   have ed:xs.drop i=xs[i]::xs.drop (i+1):=dI L;have E:Ts z (xs.take (i+1))=Ts z (xs.take i)++(if xs[i]=z then[]else[xs[i]]):=by
    rw[cy L,Bdv,Bm1];simp[Ts]
   rw[ed,List.cons_append]at hc;have bl:=Bgi z (xs.take i);rw[bH]at bl;simp only[J,aB,Aa,Aeq];rw[take_cons hq hc rfl];simp only[Aa,I,Ac,aC,aA,Adr];have U:As (fun j=>j=c) h0 (h.put c (.chan cap ((xs.drop (i+1)++Ts z (xs.take i)).map I))):=x.Ao (.inl rfl) O _;have A:HB (h.put c (.chan cap ((xs.drop (i+1)++Ts z (xs.take i)).map I))):=hb.put O _;have B:(h.put c (.chan cap ((xs.drop (i+1)++Ts z (xs.take i)).map I))).get c=some (.chan cap ((xs.drop (i+1)++Ts z (xs.take i)).map I)):=Af _ _ _;have Y:(h.put c (.chan cap ((xs.drop (i+1)++Ts z (xs.take i)).map I))).next=h.next:=rfl
   generalize h.put c (.chan cap ((xs.drop (i+1)++Ts z (xs.take i)).map I))=h2 at U A B Y⊢;have g3:h2.get b3=some (.cells [I z] 3):=As.at U hb0 F X;have C:Sh (Ag TT disp K e false) (Ag TT disp K e true) (.func 265 [] [.ptr b3 0]) [.int .i64 xs[i]] h2=some (.bool (decide (¬xs[i]=z)),h2):=by
    show Ag TT disp K e false 265 [.int .i64 xs[i],.ptr b3 0] h2=_;rw[Apf H he];simp only[Alq,C0 g3 rfl,Aa,I,Ac]
   rw[C,Aq];by_cases W:xs[i]=z
   ·rw[aQ W,cS]at E
    simp only[W,aC,aA,Aa,Ac,O3];rw[Ci (n:=(i:Int)-(Ts z (xs.take i)).length+1) (by omega) (by omega),Ci (n:=(i:Int)+1) (by omega) (by omega)];have:=ih (i+1) h2 (by omega) (by omega) (by rw[E];exact B) U A;rw[E]at this;have e3:(i:Int)-(Ts z (xs.take i)).length+1=((i+1:Nat):Int)-(Ts z (xs.take i)).length:=by omega
    rw[e3];exact this
   ·rw[aM W]at E
    simp only[W,aE,aB,Aa,Ac,Adh];have aa:h2.get q=some (.cells [.chan c] 266):=As.at U hb0 y G;rw[show EV.int .i64 xs[i]=I xs[i]from rfl,A6i aa B xs[i] (by rw[aG,aU];omega),Aq];simp only[O3,Ac];rw[Ci (n:=(i:Int)+1) (by omega) (by omega)];have:=ih (i+1) (h2.put c (.chan cap ((xs.drop (i+1)++Ts z (xs.take i)++[xs[i]]).map I))) (by omega) (by omega) (by rw[E,<-b9];exact Af _ _ _) (U.Ao (.inl rfl) (by omega) _) (A.put (by omega) _);rw[E,aG]at this;have e3:(i:Int)-(Ts z (xs.take i)).length=((i+1:Nat):Int)-((Ts z (xs.take i)).length+[xs[i]].length:Nat):=by simp;omega
    rw[e3];exact this
  ·have:i=xs.length:=by omega
   subst this;rw[List.drop_length,dN,cL]at hc;rw[cL];simp only[J,aA,Aa,U5];exact .ret ⟨rfl,hc,x,hb⟩
theorem Bpt{p:Nat}{q c:Nat->Nat}{g:Gm}(P:E3 h p ql n q c g ps)(hb:HB h)(Z:Sz n g ps)(hd:4<=d)(z:Int)(hz : -9223372036854775808<=z/\z<=9223372036854775807):
 Ok (Ag TT disp K d false 239 [.ptr p 0,I z] h) fun v h'=>(∃e,v=I e)/\As (Awt n c) h h'/\HB h'/\E3 h' p ql n q c g (if Ex g z<0 then ps else upd ps (Ex g z).toNat (Ts z (ps (Ex g z).toNat)))/\Sz n g (if Ex g z<0 then ps else upd ps (Ex g z).toNat (Ts z (ps (Ex g z).toNat))):=by
 obtain⟨e,rfl⟩:∃k,d=k+2:=⟨d-2,by omega⟩;obtain⟨b1,b2,b3⟩:=Z.bd;rw[Au2 H (by omega)];simp only[Ao0,I,Aa];obtain⟨h1,e_,U,W,n1⟩:=nW h (.cells [.int .i64 z] 3);rw[e_];have B:=U.hb hb;have X:=P.ext fun i o g=>U.at hb g
 have lp:=B _ _ X.Gh;have l3:=B _ _ W;simp only[Aa,Ar,Cg lp,Cg l3,X.Bdk,C0 W rfl];refine Ok.bE (Js Z.sm z hz _) (fun _ _ p=>p.2) ?_;rintro _ _ h2 ⟨rfl,_⟩ _ O;have C:=O.hb B;have A:=X.ext fun i o g=>O.at B g
 have F:=U.trans O;simp only[I,Ac];rcases Afi Z.sm z with Y|⟨d0,d1,d2,d3,d4⟩
 ·rw[Y]
  simp only[show(-1:Int)<0 by decide,aB,Aa,Ac,bI,Sn];exact .ret ⟨⟨15,rfl⟩,Ext.to F,C,A,Z⟩
 ·have G:¬Ex g z<0:=by omega
  simp only[G,aA,Aa,Ac,aY,A.list];generalize ao:Ex g z=dm at d0 d1 G;obtain⟨dn,rfl⟩:=aZ d0;have f:dn<n:=by omega
  rw[A.rowAt.ix f];simp only[A.A90 f,bG];rw[Apy H (by omega)];simp only[Akm,dr];rw[A.len f,Aq];have J:=A.chan _ f;have:=Bih (K:=K) H hK (e:=e) (by omega) (z:=z) (xs:=ps dn) (A.que _ f) ⟨_,J⟩ (O.at B W) (Z.cap _ f) (by omega) C K 0 h2 (by have:=Z.cap _ f;omega) (by omega) (by rw[dE,List.take_zero,show Ts z [] = []from rfl,cS];exact J) (As.refl _) C;refine Ok.Am (P:=fun v h'=>v=I (((ps dn).length:Int)-(Ts z (ps dn)).length)/\h'.get (c dn)=some (.chan g.Z.toNat ((Ts z (ps dn)).map I))/\As (fun j=>j=c dn) h2 h'/\HB h') this ?_;rintro _ h3 ⟨rfl,ab,x3,L⟩;simp only[Ac,I];have ch:As (Awt n c) h h3:=(Ext.to F).trans (x3.mono fun i hi=>⟨dn,f,hi⟩);have P3:E3 h3 p ql n q c g (upd ps dn (Ts z (ps dn))):=by
   have ne:∀b o,h2.get b=some o->A8t o->h3.get b=some o:=fun b o gb ho=>As.at x3 C gb fun e=>A.Brt gb ho ⟨dn,f,e⟩
   refine⟨A.pos,ne _ _ A.Gh trivial,ne _ _ A.row trivial,fun e he=>ne _ _ (A.que e he) trivial,fun e he=>?_,A.inj⟩;unfold upd;by_cases E:e=dn
   ·subst E;rw[aQ rfl];exact ab
   ·rw[aM E];exact As.at x3 C (A.chan e he) fun y=>E (A.inj _ _ he f y)
  have Z3:Sz n g (upd ps dn (Ts z (ps dn))):=Z.upd (bQ (Bgi _ _) (Z.cap _ f));by_cases h0:((ps dn).length:Int)-(Ts z (ps dn)).length=0
  ·simp only[h0,aB,Sn,Aa]
   exact .ret ⟨⟨15,rfl⟩,ch,L,P3,Z3⟩
  ·simp only[h0,aA,Sn,Aa,Aix]
   exact .ret ⟨⟨0,rfl⟩,ch,L,P3,Z3⟩
end
theorem Ax3(ps:Nat->List Int)(b:Int):∀n,(Fe ps b n = -1/\∀d:Nat,d<n->(d:Int)=b)\/(0<=Fe ps b n/\Fe ps b n<n/\¬Fe ps b n=b/\∀d:Nat,d<n->(d:Int)=b\/(ps d).length<=(ps (Fe ps b n).toNat).length)
 | 0=>.inl ⟨rfl,fun d hd=>absurd hd (cn _)⟩
 | n+1=>by
  have A:=Ax3 ps b n;rw[Atz];unfold Bbp;rcases A with⟨f,j⟩|⟨f,j,a3,a4⟩
  ·by_cases hb:(n:Int)=b
   ·rw[aM (fun x=>x.1 hb)]
    exact .inl ⟨f,fun d hd=>by rcases dh.1 hd with h|h;exact j d h;subst h;exact hb⟩
   ·rw[aQ ⟨hb,.inl (by omega)⟩]
    refine .inr ⟨by omega,by omega,hb,fun d hd=>?_⟩;rcases dh.1 hd with h|h
    ·exact .inl (j d h)
    ·subst h;exact .inr (by simp)
  ·by_cases hc:¬(n:Int)=b/\(Fe ps b n<0\/(ps (Fe ps b n).toNat).length<(ps n).length)
   ·rw[aQ hc]
    refine .inr ⟨by omega,by omega,hc.1,fun d hd=>?_⟩;rcases dh.1 hd with h|h
    ·rcases a4 d h with y|y
     ·exact .inl y
     ·refine .inr ?_
      rcases hc.2 with z|z
      ·omega
      ·simp only[bG];omega
    ·subst h;exact .inr (by simp)
   ·rw[aM hc]
    refine .inr ⟨f,by omega,a3,fun d hd=>?_⟩;rcases dh.1 hd with h|h
    ·exact a4 d h
    ·subst h
     by_cases hb:(d:Int)=b
     ·exact .inl hb
     ·exact .inr (by have:¬(ps (Fe ps b d).toNat).length<(ps d).length:=fun y=>hc ⟨hb,.inr y⟩;omega)
theorem Bgh{a:Nat}:∀n,(∀d,d<n->d=a\/ps d = [])->Ara ps n<=(ps a).length
 | 0,_=>by unfold Ara;simp
 | n+1,h=>by
  rw[Akt];rcases h n (aR _)with e|e
  ·subst e
   have:Ara ps n=0:=by
    have:∀k,k<=n->Ara ps k=0:=by
     intro k j;induction k with
     | zero=>rfl
     | succ k f=>
      rw[Akt,f (by omega)];rcases h k (by omega)with e|e
      ·omega
      ·rw[e];rfl
    exact this n (aD _)
   omega
  ·rw[e];have:=Bgh (a:=a) n fun d hd=>h d (Nat.lt_succ_of_lt hd);simp;omega
theorem A5d(h:Aa2 ps n≠0)(U:0<=Aa2 ps n):∃a b:Nat,Fe ps (-1) n=a/\Fe ps a n=b/\a<n/\b<n/\a≠b/\ps a≠[]/\ps b≠[]:=by
 have f:0<Aa2 ps n:=by omega
 unfold Aa2 at f;rw[Int.lt_min]at f;obtain⟨p1,J⟩:=f;rcases Ax3 ps (-1) n with⟨L,C⟩|⟨L,C,_,a4⟩
 ·have:n=0:=by
   cases n with
   | zero=>rfl
   | succ n=>have:=C 0 (by omega);omega
  subst this;unfold Ara at p1;simp at p1
 ·obtain⟨a,O⟩:=aZ L
  rw[O]at C a4 J;have E:a<n:=by omega
  have e1:Awx ps n a=(ps a).length:=by unfold Awx;rw[aQ (by omega)];rfl
  rw[e1]at J;have hex:∃d,d<n/\d≠a/\ps d≠[]:=by
   apply Classical.byContradiction;intro F;have:=Bgh (ps:=ps) (a:=a) n fun d hd=>by
    by_cases A:d=a
    ·exact .inl A
    ·refine .inr (Classical.byContradiction fun j=>F ⟨d,hd,A,j⟩)
   omega
  obtain⟨d,hd,A,j⟩:=hex;have G:ps a≠[]:=fun e=>by
   rcases a4 d hd with y|y
   ·omega
   ·rw[bG,e]at y;exact j (bX.1 (by simpa using y))
  rcases Ax3 ps a n with⟨b1,b2⟩|⟨b1,b2,b3,b4⟩
  ·have:=b2 d hd;omega
  ·obtain⟨b,B⟩:=aZ b1
   rw[B]at b2 b3 b4;refine⟨a,b,O,B,E,by omega,by omega,G,fun e=>?_⟩;rcases b4 d hd with y|y
   ·omega
   ·rw[bG,e]at y;exact j (bX.1 (by simpa using y))
theorem Ati:0<=Aa2 ps n:=by
 unfold Aa2;have:Awx ps n (Fe ps (-1) n)<=Ara ps n:=by
  unfold Awx;split
  ·rename_i h
   have:∀m d,d<m->(ps d).length<=Ara ps m:=by
    intro m;induction m with
    | zero=>intro d hd;omega
    | succ m f=>
     intro d hd;rw[Akt];rcases dh.1 hd with h|h
     ·have:=f d h;omega
     ·subst h;omega
   exact this n _ (by omega)
  ·omega
 omega
section
variable{p:Nat}{q c:Nat->Nat}{g:Gm}(P:E3 h p ql n q c g ps)(hb:HB h)(Z:Sz n g ps)(hK:5000<K)
include P hb Z hK
theorem Bro:Ok (Xy K (.ptr p 0) h) fun v h'=>As (Awt n c) h h'/\HB h'/\((Aa2 ps n=0/\v=.tuple [I 0,I 0,I 15]/\E3 h' p ql n q c g ps) \/
 ∃(a b:Nat) (x y:Int) (r s:List Int),¬Aa2 ps n=0/\Fe ps (-1) n=a/\Fe ps a n=b/\a<n/\b<n/\a≠b/\ps a=x::r/\ps b=y::s/\v=.tuple [I x,I y,I 0]/\E3 h' p ql n q c g (upd (upd ps a r) b s)/\Sz n g (upd (upd ps a r) b s)):=by
 obtain⟨b1,b2,b3⟩:=Z.bd;simp only[Xy,dr];refine(Bbf P hb Z.small (by omega)).Am ?_;rintro _ h1 ⟨rfl,E⟩;have f:=E.hb hb;have F:=P.ext fun i o g=>E.at hb g
 simp only[I,Ac];by_cases G:Aa2 ps n=0
 ·simp only[G,aB,Aa]
  exact .ret ⟨Ext.to E,f,.inl ⟨trivial,rfl,F⟩⟩
 ·simp only[G,aA,Aa,Aic]
  obtain⟨a,b,ha,B,J,L,C,O,hb0⟩:=A5d G Ati;refine(Atv F f (by omega) (by omega) (-1)).Am ?_;rintro _ h2 ⟨rfl,U⟩;have j:=U.hb f;have P2:=F.ext fun i o g=>U.at f g
  rw[ha];refine(Atv P2 j (by omega) (by omega) a).Am ?_;rintro _ h3 ⟨rfl,W⟩;have X:=W.hb j;have P3:=P2.ext fun i o g=>W.at j g
  rw[B];refine(A8v P3 X Z hK a).Am ?_;rintro _ h4 ⟨c4,Y,x,e,A,rfl,P4,Z4,hh⟩;have hx:e=0/\∃r,ps a=x::r/\A=upd ps a r:=by
   rcases hh with⟨y,_⟩|⟨_,_,y,_⟩|⟨_,_,y,z⟩
   ·omega
   ·rw[bG]at y;exact absurd y O
   ·rw[bG]at z;exact⟨y,z⟩
  obtain⟨rfl,r,ab,rfl⟩:=hx;simp only[Aa];refine(A8v P4 Y Z4 hK b).Am ?_;rintro _ h5 ⟨c5,ad,y,e,A,rfl,P5,Z5,hh⟩;have eb:upd ps a r b=ps b:=by unfold upd;rw[aM (cT C)]
  have hy:e=0/\∃s,ps b=y::s/\A=upd (upd ps a r) b s:=by
   rcases hh with⟨w,_⟩|⟨_,_,w,_⟩|⟨_,_,w,z⟩
   ·omega
   ·rw[bG,eb]at w;exact absurd w hb0
   ·rw[bG,eb]at z;exact⟨w,z⟩
  obtain⟨rfl,s,ae,rfl⟩:=hy;simp only[Aa,I,Ac,aC,aA,Ah7];refine .ret ⟨(Ext.to (E.trans (U.trans W))).trans (c4.trans c5),ad,.inr ⟨a,b,x,y,r,s,not_false,rfl,B,J,L,C,ab,ae,rfl,P5,Z5⟩⟩
end
end
def Mc(st:Nat):Int:=if st=4 then 32 else if st=3 then 30 else 0
theorem Ajz{z q:Nat}{size:Int}{Z:Zn}(f:E4 h z q size Z):Ed K (.ptr z 0) h=some (I Z.st,h):=by
 obtain⟨s,g,_⟩:=f.An;simp only[Ed,Aa,C0 g rfl]
theorem A9g{z q:Nat}{size:Int}{Z:Zn}(f:E4 h z q size Z):Ho K (.ptr z 0) h=some (I Z.l.length,h):=by
 obtain⟨s,g,r⟩:=f.An;simp only[Ho,Aa,C0 g rfl,r.Hf]
theorem X4{z q:Nat}{size:Int}{Z:Zn}(j:E4 h z q size Z):D1 K (.ptr z 0) h=some (I (Mc Z.st),h):=by
 obtain⟨s,g,_⟩:=j.An;simp only[D1,Aa,C0 g rfl,I,Ac];unfold Mc;by_cases h4:Z.st=4
 ·have:decide ((Z.st:Int)=4)=true:=by simp[h4]
  rw[this,aQ h4];simp only[Aa]
 ·have a:decide ((Z.st:Int)=4)=false:=by simp;omega
  rw[a,aM h4];simp only[Aa,Ac];by_cases f:Z.st=3
  ·have:decide ((Z.st:Int)=3)=true:=by simp[f]
   rw[this,aQ f];simp only[Aa]
  ·have b:decide ((Z.st:Int)=3)=false:=by simp;omega
   rw[b,aM f];simp only[Aa,Ac,Oa]
theorem E4.ext{z q:Nat}{size:Int}{Z:Zn}(d:E4 h z q size Z)(g:∀i o,h.get i=some o->h'.get i=some o):E4 h' z q size Z:=by
 obtain⟨s,a,b⟩:=d.An;exact⟨⟨s,g _ _ a,b.frame fun f=>by rw[g _ _ (b.block f),b.block f]⟩,d.wf⟩
def Zn.app(Z:Zn)(size:Nat)(x:List EV):Zn:=⟨Z.l++[x],Z.safe,if Z.l.length+1=size then 2 else 1,Z.fin⟩
theorem A25{z q size:Nat}{Z:Zn}(zz:E4 h z q size Z)(hb:HB h)(a1:Z.st<2)(O:Z.l.length<=64){x:List EV}(W:x.length=64):
 Ok (D3 K (.ptr z 0) (.agg x) h) fun v h'=>v=.tuple [I Z.l.length,I 0]/\(∃q',E4 h' z q' size (Z.app size x)/\h.next<=q')/\As (fun i=>i=z\/(0<Z.l.length/\i=q)) h h'/\HB h':=by
 obtain⟨s,g,r⟩:=zz.An;simp only[D3,Aa];obtain⟨X,e_,Y,g3,n1⟩:=nW h (.cells x 30);rw[e_];have j:=Y.hb hb;have z1:E4 X z q size Z:=zz.ext fun i o g=>Y.at hb g
 have g1:=Y.at hb g;have r1:Cc X s q 30 64 Z.l.length Z.l.flatten:=r.frame fun O=>by rw[Y.at hb (r.block O),r.block O]
 rw[X4 z1,Aq];have hf:Mc Z.st=0:=by unfold Mc;rw[aM (by omega),aM (by omega)]
 rw[hf];have h2:¬(Z.st:Int)=2:=by omega
 simp only[Ac,I,aC,aA,Aa,H3,C0 g1 rfl,h2,Nw];have lz:=j _ _ g1;have l3:=j _ _ g3;simp only[Aa,Ar,Cg lz,Cg l3,C0 g1 rfl,Cz g3 rfl,Aj W];rw[S7 (z:=List.replicate 64 (.int .u8 0)) rfl (by simp) (by exact W) (by omega),Aq];obtain⟨f,e_,x2,gx,n2⟩:=nW X (.cells (EV.cells (.agg x)) 30);rw[e_];have C:=x2.hb j;have g2:=x2.at j g1;have r2:Cc f.lift s q 30 64 Z.l.length Z.l.flatten:=(r1.frame (h':=f) fun O=>by rw[x2.at j (r1.block O),r1.block O]).frame fun _=>Br _ _
 obtain⟨h3,e3,r3,n3,c3⟩:=Aav (x:=.slice X.next 0 1 1 false) (n:=1) r2 rfl (by omega) (by omega) (by omega) (Xt (b:=X.next) (by rw[Br];exact gx) W) (by rw[W]);refine Ok.bC (S:=fun i=>0<Z.l.length/\i=q) (P:=fun v h'=>v=.slice f.lift.next 0 (Z.l.length+1) (Z.l.length+1) true/\h'=h3) ⟨_,_,e3,rfl,rfl⟩ (fun _ _ p=>by rw[p.2];exact c3) ?_;rintro _ _ h4 s' ⟨rfl,rfl⟩ sm x4 al;have ab:=x4.hb C;rw[Alh]at r3 n3;rw[Alh];have ao:¬(0<Z.l.length/\z=q):=fun y=>by
  have:=r1.block y.1;exact Ay g1 this (by simp) y.2
 have g4:h4.get z=some (.cells [s,I size,I Z.safe,I Z.st,.bool Z.fin] 277):=As.at x4 C g2 ao;have r4:Cc h4 (.slice f.next 0 (Z.l.length+1) (Z.l.length+1) true) f.next 30 64 (Z.l.length+1) (Z.l.flatten++x):=r3.frame fun _=>sm.get _
 have A:z<h4.next:=ab _ _ g4
 try simp only[Aa]
 rw[Gt (by rcases al with rfl|⟨w,rfl,_⟩<;>kernel_rfl)];refine Ok.st1 g4 rfl rfl (by show 0<5;decide) ?_;refine Ok.st1 (Af _ _ _) rfl rfl (by show 3<5;decide) ?_;simp only[List.set,Aa];have E:f.next≠z:=by have:=C _ _ g2;omega
 have F:z<((h4.put z (.cells [EV.slice f.next 0 (Z.l.length+1) (Z.l.length+1) true,I size,I Z.safe,I Z.st,.bool Z.fin] 277)).put z (.cells [EV.slice f.next 0 (Z.l.length+1) (Z.l.length+1) true,I size,I Z.safe,.int .i64 1,.bool Z.fin] 277)).next:=A
 have hq:h.next<=f.next:=by omega
 have r5:∀o1 B,Cc ((h4.put z o1).put z B) (.slice f.next 0 (Z.l.length+1) (Z.l.length+1) true) f.next 30 64 (Z.l.length+1) (Z.l.flatten++x):=fun o1 B=>r4.frame fun _=>by rw[Ae _ (cT E),Ae _ (cT E)]
 have ch:∀o1 B,As (fun i=>i=z\/(0<Z.l.length/\i=q)) h ((h4.put z o1).put z B):=fun o1 B=>((((Ext.to (Y.trans x2)).trans (x4.mono fun i hi=>.inr hi)).Ao (.inl (.inl rfl)) A _).Ao (.inl (.inl rfl)) A _)
 have aq:∀o1 B,HB ((h4.put z o1).put z B):=fun o1 B=>(ab.put A _).put A _
 have gz:((h4.put z (.cells [EV.slice f.next 0 (Z.l.length+1) (Z.l.length+1) true,I size,I Z.safe,I Z.st,.bool Z.fin] 277)).put z (.cells [EV.slice f.next 0 (Z.l.length+1) (Z.l.length+1) true,I size,I Z.safe,.int .i64 1,.bool Z.fin] 277)).get z=some (.cells [EV.slice f.next 0 (Z.l.length+1) (Z.l.length+1) true,I size,I Z.safe,.int .i64 1,.bool Z.fin] 277):=Af _ _ _;have G:=r5 (.cells [EV.slice f.next 0 (Z.l.length+1) (Z.l.length+1) true,I size,I Z.safe,I Z.st,.bool Z.fin] 277) (.cells [EV.slice f.next 0 (Z.l.length+1) (Z.l.length+1) true,I size,I Z.safe,.int .i64 1,.bool Z.fin] 277);have J:=ch (.cells [EV.slice f.next 0 (Z.l.length+1) (Z.l.length+1) true,I size,I Z.safe,I Z.st,.bool Z.fin] 277) (.cells [EV.slice f.next 0 (Z.l.length+1) (Z.l.length+1) true,I size,I Z.safe,.int .i64 1,.bool Z.fin] 277);have L:=aq (.cells [EV.slice f.next 0 (Z.l.length+1) (Z.l.length+1) true,I size,I Z.safe,I Z.st,.bool Z.fin] 277) (.cells [EV.slice f.next 0 (Z.l.length+1) (Z.l.length+1) true,I size,I Z.safe,.int .i64 1,.bool Z.fin] 277);generalize (h4.put z (.cells [EV.slice f.next 0 (Z.l.length+1) (Z.l.length+1) true,I size,I Z.safe,I Z.st,.bool Z.fin] 277)).put z (.cells [EV.slice f.next 0 (Z.l.length+1) (Z.l.length+1) true,I size,I Z.safe,.int .i64 1,.bool Z.fin] 277)=h5 at gz G J L F⊢;simp only[C0 gz rfl,Aa,I,Ac];have fin:∀(st:Nat) (U:Ab),st=(Z.app size x).st->U.get z=some (.cells [EV.slice f.next 0 (Z.l.length+1) (Z.l.length+1) true,I size,I Z.safe,I st,.bool Z.fin] 277)->Cc U (.slice f.next 0 (Z.l.length+1) (Z.l.length+1) true) f.next 30 64 (Z.l.length+1) (Z.l.flatten++x)->As (fun i=>i=z\/(0<Z.l.length/\i=q)) h U->HB U ->
  Ok (Hl K (.ptr z 0) U) fun v h'=>v=.tuple [I Z.l.length,I 0]/\(∃q',E4 h' z q' size (Z.app size x)/\h.next<=q')/\As (fun i=>i=z\/(0<Z.l.length/\i=q)) h h'/\HB h':=by
  rintro st U rfl g6 r6 c6 au;simp only[Hl,Aa,C0 g6 rfl,I,Ac];rw[Ci,show((Z.l.length+1:Nat):Int)-1=(Z.l.length:Int) by omega];refine .ret ⟨rfl,⟨f.next,⟨⟨_,g6,?_⟩,fun y hy=>by
   rcases bP.1 hy with hy|hy
   ·exact zz.wf y hy
   ·rw[aP.1 hy];exact W⟩,hq⟩,c6,au⟩
  have e1:(Z.app size x).l.length=Z.l.length+1:=by simp[Zn.app]
  have e2:(Z.app size x).l.flatten=Z.l.flatten++x:=by simp[Zn.app]
  rw[e1,e2];exact r6
 by_cases hs:Z.l.length+1=size
 ·have:((Z.l.length+1:Nat):Int)=(size:Int):=by omega
  simp only[this,aB,Aa];refine Ok.st1 gz rfl rfl (by show 3<5;decide) ?_;refine fin 2 _ (by simp[Zn.app,hs]) (Af _ _ _) (G.frame fun _=>Ae _ (cT E)) (J.Ao (.inl (.inl rfl)) F _) (L.put F _)
 ·have:¬((Z.l.length+1:Nat):Int)=(size:Int):=by omega
  simp only[this,aA,Aa];exact fin 1 _ (by simp[Zn.app,hs]) gz G J L
theorem A0u{z q:Nat}{size:Int}{Z:Zn}(A:E4 h z q size Z)(hb:HB h)(B:2<=Z.st)(h4:Z.st<=4)(x:List EV):
 Ok (D3 K (.ptr z 0) (.agg x) h) fun v h'=>v=.tuple [I 0,I (if Z.st=2 then 17 else Mc Z.st)]/\Ext h h':=by
 simp only[D3,Aa];obtain⟨C,E,f,_,_⟩:=nW h (.cells x 30);rw[E];have z1:E4 C z q size Z:=A.ext fun i o g=>f.at hb g
 rw[X4 z1,Aq];obtain⟨s,g,_⟩:=z1.An;by_cases h2:Z.st=2
 ·have j:Mc Z.st=0:=by unfold Mc;rw[aM (by omega),aM (by omega)]
  have y:(Z.st:Int)=2:=by omega
  rw[j];simp only[Ac,I,aC,aA,Aa,H3,C0 g rfl,y,aB,h2,bI];exact .ret ⟨rfl,f⟩
 ·have j:¬Mc Z.st=0:=by
   unfold Mc;split
   ·decide
   ·split
    ·decide
    ·omega
  simp only[Ac,I,j,aE,aB,Aa,h2,aY];exact .ret ⟨rfl,f⟩
theorem Ea{l:List EV}(f:h.get i=some (.cells l t))(hs:TT.size t=some n)(j:TT.agg t=some true)(y:l.length=n):Ij TT [.c (.ptr i 0) t,.v v] h=some (.tuple [.agg l,v],h):=by
 have A:I5 h i 0 n=some l:=by
  unfold I5;rw[f];simp only;rw[<-Ai5];exact Aj y
 unfold Ij;simp only[Azs,hs,A,j]
theorem Az3:TT.size 30=some 64/\TT.agg 30=some true:=⟨by kernel_rfl,by kernel_rfl⟩
def Vl:List EV:=List.replicate 64 (.int .u8 0)
theorem Ku:Vl.length=64:=by simp[Vl]
theorem Bne:∀(l:List (List EV)) (j:Nat),(∀x∈l,x.length=64)->j<l.length->∃x,l[j]? = some x/\x.length=64/\Mu l.flatten (j*64) 64=some x:=by
 intro l;induction l with
 | nil=>intro j _ hj;cases hj
 | cons y l B=>
  intro j hw hj;have F:=hw y (aV ..);cases j with
  | zero=>
   refine⟨y,rfl,F,?_⟩;rw[br,E7 (by simp[F]),fR,dE,dK (by omega),bR (by omega)]
  | succ j=>
   obtain⟨x,e1,e2,e3⟩:=B j (fun x f=>hw x (aT _ f)) (by simpa using hj);refine⟨x,by simpa using e1,e2,?_⟩;have G:j*64+64<=l.flatten.length:=by
    rcases dL l.flatten.length (j*64+64)with C|E
    ·rw[Ai5]at e3
     exfalso;have:(l.flatten.drop (j*64)).length<64:=by rw[aU];omega
     revert e3;have hlen:l.flatten.length=l.length*64:=by
      clear B hj e1 C this;have A:∀x∈l,x.length=64:=fun x f=>hw x (aT _ f)
      clear hw;induction l with
      | nil=>rfl
      | cons a l B=>rw[br,aG,B fun x f=>A x (aT _ f),A a (aV ..),bK];omega
     have:j+1<=l.length:=by simp at hj;omega
     omega
    ·exact E
   rw[E7 G]at e3;rw[br,E7 (by rw[aG];omega),show(j+1)*64=y.length+j*64 by omega,List.drop_append,<-e3,ct (by omega),dN];simp
def Aft(Z:Zn)(off:Int):List EV × Int:=if Z.st=4 then(Vl,32)else if 0<=off/\off<Z.l.length then((Z.l[off.toNat]?).getD Vl,0)else(Vl,31)
theorem Bjd {Z:Zn}(wf:∀x∈Z.l,x.length=64)(off:Int):(Aft Z off).1.length=64:=by
 unfold Aft;split
 ·exact Ku
 ·split
  ·rename_i hc
   have:off.toNat<Z.l.length:=by omega
   rw[aH this];exact wf _ (av _)
  ·exact Ku
theorem A6f{z q:Nat}{size:Int}{Z:Zn}(G:E4 h z q size Z)(hb:HB h)(off:Int):
 Ok (Hc K (.ptr z 0) (I off) h) fun v h'=>v=.tuple [.agg (Aft Z off).1,I (Aft Z off).2]/\Ext h h':=by
 simp only[Hc,Aa];have y:Ext h ((h.new (.cells (List.replicate 64 (.int .u8 0)) 30)).new (.cells (List.replicate 64 (.int .u8 0)) 30)):=(As.new _ _).Da _;have A:((h.new (.cells (List.replicate 64 (.int .u8 0)) 30)).new (.cells (List.replicate 64 (.int .u8 0)) 30)).get h.next=some (.cells Vl 30):=by
  rw[Az _ (aR _)];exact Ad _ _
 have f:((h.new (.cells (List.replicate 64 (.int .u8 0)) 30)).new (.cells (List.replicate 64 (.int .u8 0)) 30)).get (h.new (.cells (List.replicate 64 (.int .u8 0)) 30)).next=some (.cells Vl 30):=Ad _ _
 generalize L:(h.new (.cells (List.replicate 64 (.int .u8 0)) 30)).next=U at f⊢
 generalize (h.new (.cells (List.replicate 64 (.int .u8 0)) 30)).new (.cells (List.replicate 64 (.int .u8 0)) 30)=B at y A f⊢;have C:=y.hb hb;have z1:E4 B z q size Z:=G.ext fun i o g=>y.at hb g
 obtain⟨s,g,r⟩:=z1.An;have O:=C _ _ A;have fin:∀(l:List EV) (e:Int),l.length=64->(l,e)=Aft Z off->Ok (stE 64 (.ptr h.next 0) (.agg l) B fun h=>Ij TT [.c (.ptr h.next 0) 30,.v (I e)] h) (fun v h'=>True)->True:=fun _ _ _ _ _=>trivial
 clear fin;have fin:∀(l:List EV) (e:Int) (kk:Ab->R),(∀h',kk h'=Ij TT [.c (.ptr h.next 0) 30,.v (I e)] h')->l.length=64->(l,e)=Aft Z off->Ok (stE 64 (.ptr h.next 0) (.agg l) B kk) fun v h'=>v=.tuple [.agg (Aft Z off).1,I (Aft Z off).2]/\Ext h h':=by
  intro l e kk E F he;refine Ok.st l A rfl (by rw[show EV.cells (.agg l)=l from rfl,Bf,F]) (Bl (by rw[Ku];exact F.symm)) ?_;rw[E,Ea (Af _ _ _) Az3.1 Az3.2 F,<-he];exact .ret ⟨rfl,y.Ao (.inr (aD _)) O _⟩
 simp only[C0 g rfl,Aa,I,Ac,Cz f rfl,Aj Ku];by_cases h4:Z.st=4
 ·rw[show decide ((Z.st:Int)=4)=true by simp[h4]]
  simp only[Aa];exact fin Vl 32 _ (fun _=>rfl) Ku (by unfold Aft;rw[aQ h4])
 ·rw[show decide ((Z.st:Int)=4)=false by simp;omega]
  simp only[Aa];by_cases h0:off<0
  ·simp only[h0,aB,Aa,I7,Cz f rfl,Aj Ku]
   exact fin Vl 31 _ (fun _=>rfl) Ku (by unfold Aft;rw[aM h4,aM (by omega)])
  ·simp only[h0,aA,Aa,r.Hf,Ac,I7]
   by_cases J:(Z.l.length:Int)<=off
   ·simp only[J,aB,Aa,Cz f rfl,Aj Ku]
    exact fin Vl 31 _ (fun _=>rfl) Ku (by unfold Aft;rw[aM h4,aM (by omega)])
   ·simp only[J,aA,Aa,Ph,C0 g rfl]
    have hj:off.toNat<Z.l.length:=by omega
    obtain⟨j,rfl⟩:∃j:Nat,off=j:=⟨off.toNat,by omega⟩;rw[show(j:Int).toNat=j from rfl]at hj;obtain⟨x,f1,f2,f3⟩:=Bne Z.l j G.wf hj;rw[r.ix hj];simp only[Cz (r.block (by omega)) rfl,f3,Aa];refine fin x 0 _ (fun _=>rfl) f2 ?_;unfold Aft;rw[aM h4,aQ (by omega),show(j:Int).toNat=j from rfl,f1];rfl
theorem E4.put{z q:Nat}{size:Int}{Z:Zn}(f:E4 h z q size Z){s:EV}(g:h.get z=some (.cells [s,I size,I Z.safe,I Z.st,.bool Z.fin] 277))(safe st:Nat)(fin:Bool):
 E4 (h.put z (.cells [s,I size,I safe,I st,.bool fin] 277)) z q size ⟨Z.l,safe,st,fin⟩:=by
 obtain⟨s',j,r⟩:=f.An;rw[g]at j;have:s=s':=by
  have:=fV j;injection this with a _;exact(List.cons.inj a).1
 subst this;refine⟨⟨s,Af _ _ _,r.frame fun y=>Ae _ ?_⟩,f.wf⟩;exact Ay g (r.block y) (by simp)
def Zn.flush(Z:Zn):Zn:={ Z with safe:=Z.l.length }
theorem A32{z q:Nat}{size:Int}{Z:Zn}(f:E4 h z q size Z)(hb:HB h):
 Ok (Gv K (.ptr z 0) h) fun v h'=>E4 h' z q size Z.flush/\As (fun i=>i=z) h h'/\HB h':=by
 obtain⟨s,g,r⟩:=f.An;have j:=hb _ _ g;simp only[Gv,Aa,C0 g rfl,r.Hf];refine Ok.st1 g rfl rfl (by show 2<5;decide) ?_;refine .ret ⟨?_,(As.refl (S:=fun i=>i=z) h).Ao (.inl rfl) j _,hb.put j _⟩;exact f.put g Z.l.length Z.st Z.fin
def Zn.finish(Z:Zn):Zn:={ Z with st:=2,fin:=true }
theorem A16{z q:Nat}{size:Int}{Z:Zn}(f:E4 h z q size Z)(hb:HB h):
 Ok (Gf K (.ptr z 0) h) fun v h'=>v=I (Mc Z.st)/\E4 h' z q size (if Mc Z.st=0 then Z.finish else Z)/\As (fun i=>i=z) h h'/\HB h':=by
 obtain⟨s,g,r⟩:=f.An;have j:=hb _ _ g;simp only[Gf,X4 f,Aa,I,Ac];by_cases y:Mc Z.st=0
 ·simp only[y,aC,aA,Aa,bI,Nm]
  refine Ok.st1 g rfl rfl (by show 3<5;decide) ?_;refine Ok.st1 (Af _ _ _) rfl rfl (by show 4<5;decide) ?_;refine .ret ⟨rfl,?_,((As.refl (S:=fun i=>i=z) h).Ao (.inl rfl) j _).Ao (.inl rfl) j _,(hb.put j _).put j _⟩;exact(f.put g Z.safe 2 Z.fin).put (Af _ _ _) Z.safe 2 true
 ·simp only[y,aE,aB,Aa,aY]
  exact .ret ⟨rfl,f,As.refl _,hb⟩
def Zn.fail(Z:Zn)(st:Nat):Zn:=if st=4\/st=3/\¬Z.st=4 then { Z with st:=st }else Z
theorem A8o{z q:Nat}{size:Int}{Z:Zn}(f:E4 h z q size Z)(hb:HB h)(st:Nat):
 Ok (Hd K (.ptr z 0) (I st) h) fun v h'=>E4 h' z q size (Z.fail st)/\As (fun i=>i=z) h h'/\HB h':=by
 obtain⟨s,g,r⟩:=f.An;have j:=hb _ _ g;have yes:(st=4\/st=3/\¬Z.st=4)->Ok (stE 1 (.ptr z 3) (I st) h fun h=>some (.tuple [],h)) fun v h'=>E4 h' z q size (Z.fail st)/\As (fun i=>i=z) h h'/\HB h':=by
  intro hc;refine Ok.st1 g rfl rfl (by show 3<5;decide) ?_;refine .ret ⟨?_,(As.refl (S:=fun i=>i=z) h).Ao (.inl rfl) j _,hb.put j _⟩;unfold Zn.fail;rw[aQ hc];exact f.put g Z.safe st Z.fin
 have no:¬(st=4\/st=3/\¬Z.st=4)->Ok (some (.tuple [],h)) fun v h'=>E4 h' z q size (Z.fail st)/\As (fun i=>i=z) h h'/\HB h':=by
  intro hc;refine .ret ⟨?_,As.refl _,hb⟩;unfold Zn.fail;rw[aM hc];exact f
 simp only[Hd,I,Ac,Aa];by_cases a:st=4
 ·rw[show decide ((st:Int)=4)=true by simp[a]]
  simp only[Aa,Ac,F0,Ep,Eu];exact yes (.inl a)
 ·rw[show decide ((st:Int)=4)=false by simp;omega]
  simp only[Aa,Ac];by_cases b:st=3
  ·rw[show decide ((st:Int)=3)=true by simp[b]]
   simp only[Aa,Ac,F0,C0 g rfl,I];by_cases c:Z.st=4
   ·rw[show decide (¬(Z.st:Int)=4)=false by simp[c]]
    simp only[Aa,Ac,Ep,Eu];exact no (by omega)
   ·rw[show decide (¬(Z.st:Int)=4)=true by simp;omega]
    simp only[Aa,Ac,Ep,Eu];exact yes (.inr ⟨b,c⟩)
  ·rw[show decide ((st:Int)=3)=false by simp;omega]
   simp only[Aa,Ac,F0,Ep,Eu];exact no (by omega)
theorem Yd{b sz:Nat}{x:EV}{new:List EV}(j:lenOf x=some n)(f:n<=65536)(hc:Pk h sz n x=some new)(hs:new.length=n*sz)(q:Nat):
 Ok (Eg e sz (.slice b 0 0 0 false) x h) fun v h'=>∃q',Cc h' v q' e sz n new/\Ext h h'/\(0<n->h.next<=q'):=by
 rcases fB n with rfl|A
 ·have:new = []:=bX.1 (by omega)
  subst this;refine⟨.slice b 0 0 0 false,h,?_,q,.empty _ _ _ _ _,As.refl _,fun y=>by omega⟩;unfold Eg;simp only[j,Gu];rfl
 ·obtain⟨h',e1,r,C,c⟩:=Aav (s:=.slice b 0 0 0 false) (q:=q) (e:=e) (.empty h b q e sz) j A f (cU _) hc hs
  refine⟨_,h',e1,h.next,?_,c.mono fun i B=>absurd B.1 (bS _),fun _=>aD _⟩;rw[dN]at r;simpa only[bF]using r
end Go.Ev
