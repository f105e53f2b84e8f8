import Derived.Test.YtadnemjjlacolaaGreatWa
import Derived.Test.YtadnemjjlacolaaGreatDa
import Derived.Test.YtadnemjjlacolaaGreatDc
set_option linter.all false
namespace Go.Ev
open Go.Proofs
set_option maxRecDepth 100000
variable {a b x op cnt:Int}{k:Ab->List Nat->R}{ex:Nat->Ab->List Nat->R}{S:Nat->Prop}{h h' h0:Ab}{D K V d e i n t b2 b3 b4 d0 l0 ql zl cap:Nat}{o:Ec}{T:Kh}{down:Bool}{ps:Nat->List Int}{v Lm happened:EV}{marks:List (EV × EV)}{xs:List Int}{tm tm1:Ax}{disp:Nat->Option FT}
section
noncomputable def Au(T:Kh)(g n i:Nat)(tm:Ax)(st:LoopState)(p:Option Code)(d:Nat):Ec:=.loop st p g n tm (E4 T g i).2.1 (E4 T g i).2.2.1 (E4 T g i).2.2.2 d
noncomputable def Ca(T:Kh)(g n i:Nat)(tm:Ax)(h:Ab):Ab:=(h.new (.deferred true)).new (Au T g n i tm .ready none h.next)
section
variable{g l:Nat}{st:LoopState}{p:Option Code}{Q:EV->Ab->Prop}
theorem J1:(Ca T g n i tm h).get (h.next+1)=some (Au T g n i tm .ready none h.next):=Ad _ _
theorem Le:(Ca T g n i tm h).get h.next=some (.deferred true):=by
 unfold Ca;rw[Az _ (aL _)];exact Ad _ _
theorem Jj:Ext h (Ca T g n i tm h):=(Av.new _ _).Ds _
theorem A3u:(Ca T g n i tm h).next=h.next+2:=rfl
theorem Abi {f:Ab->R}(j:h.get l=some (Au T g n i tm .ready p d)):Fs l h f=f (h.put l (Au T g n i tm .busy p d)):=by
 unfold Fs;rw[j];rfl
theorem Tm {b:Bool}{st':LoopState}{j:Option Code}(f:h.get l=some (Au T g n i tm st p d)):Vh l b st' j h=some (.bool b,h.put l (Au T g n i tm st' j d)):=by
 unfold Vh;rw[f];rfl
theorem Ok.range {c:Ah}{q:Nat}{f:List EV}{ds:List Nat}{ret:Ab->List Nat->R}
 (hc:Ok (c q (.yld (h.next+1)::f) (Ca T g n i tm h)) fun _ h'=>
  (h'.get (h.next+1)=some (Au T g n i tm .ready none h.next)/\Ok (k (h'.put (h.next+1) (Au T g n i tm .exhausted none h.next)) (h.next::ds)) Q) \/
  (h'.get (h.next+1)=some (Au T g n i tm .done (some .ret) h.next)/\Ok (ret (h'.put (h.next+1) (Au T g n i tm .exhausted (some .ret) h.next)) (h.next::ds)) Q)) :
 Ok (Zk c T g n i (.func q [] f) tm h ds k ex ret) Q:=by
 obtain⟨v,h',e,j⟩:=hc;have:Zk c T g n i (.func q [] f) tm h ds k ex ret=Bek (h.next+1) (c q (.yld (h.next+1)::f) (Ca T g n i tm h)) (fun h'=>k h' (h.next::ds)) (fun id h'=>ex id h' (h.next::ds)) (fun h'=>ret h' (h.next::ds)):=rfl;rw[this,e];unfold Bek;simp only;rcases j with⟨a,b⟩|⟨a,b⟩
 ·rw[a];exact b
 ·rw[a];exact b
theorem Ok.unwind:∀{ds:List Nat} {h:Ab} {k:Ab->R},ds.Nodup->(∀d∈ds,h.get d=some (.deferred true))->HB h->(∀h',Av (fun i=>i∈ds) h h'->h'.next=h.next->Ok (k h') Q)->Ok (E1 ds h k) Q
 | [],h,k,_,_,_,j=>j h (Av.refl _) rfl
 | d::ds,h,k,hn,hd,hb,j=>by
  obtain⟨A,B⟩:=cB.1 hn;have f:=hd d aX;have ld:=hb _ _ f;have e:E1 (d::ds) h k=E1 ds (h.put d (.deferred false)) k:=by
   show(match h.get d with|some (.deferred true)=>E1 ds (h.put d (.deferred false)) k|_=>none)=_;rw[f]
  rw[e];refine Ok.unwind B (fun x C=>?_) (hb.put ld _) fun h' c n=>j h' ?_ (by rw[n];rfl)
  ·rw[Ag _ (fun y=>A (by rw[y];exact C))];exact hd x (aT _ C)
  ·exact((Av.refl h).Ar (S:=fun i=>i∈d::ds) (.inl aX) ld _).trans (c.mono fun i E=>aT _ E)
end
structure Kp(S:Nat->Prop)(h0 h:Ab):Prop where
 chg:Av S h0 h
 same:∀i,i<h0.next->h.get i=h0.get i
theorem Kp.refl(h:Ab):Kp S h h:=⟨Av.refl _,fun _ _=>rfl⟩
theorem Ext.kp(x:Ext h0 h):Kp S h0 h:=⟨Ext.to x,fun i f=>x.get i f id⟩
theorem Kp.trans{a b c:Ab}(x:Kp S a b)(y:Kp S b c):Kp S a c:=⟨x.chg.trans y.chg,fun i f=>by rw[y.same i (aK f x.chg.next),x.same i f]⟩
theorem Kp.Ar(x:Kp S h0 h)(f:h0.next<=i)(hn:i<h.next)(o:Ec):Kp S h0 (h.put i o):=
 ⟨x.chg.Ar (.inr f) hn o,fun j hj=>by rw[Ag _];exact x.same j hj⟩
theorem Kp.at(x:Kp S h0 h)(hb:HB h0)(g:h0.get i=some o):h.get i=some o:=by rw[x.same i (hb _ _ g)];exact g
theorem Kp.A9n {T:Nat->Prop}{a b c:Ab}(x:Kp S a b)(y:Av T b c)(st:∀i,T i->a.next<=i):Kp S a c:=
 ⟨x.chg.then y fun i f A=>by have:=st i f;omega,fun i f=>by rw[y.get i (aK f x.chg.next) fun j=>by have:=st i j;omega,x.same i f]⟩
end
section
structure Gm where
 D:Int
 Z:Int
 S:Int
 B:Int
 P:Int
 O:Int
def gL(g:Gm):List EV:=[I g.D,I g.Z,I g.S,I g.B,I g.P,I g.O]
def gV(g:Gm):EV:=.agg (gL g)
def Gm.parts(g:Gm):Int:=1+(g.B+1)/2
def Gm.De(g:Gm):Int:=g.D*g.P+4
def Gm.least(g:Gm):Int:=min ((g.D-1)*(g.Z-g.P-2)-g.De+1) (g.D*(g.Z-g.P-2)-2*g.De+1)
def Gm.segments(g:Gm):Int:=g.least/2-1-g.D*g.P
def wi(n a b:Int):Bool:=decide (a<=n)&&decide (n<=b)
theorem Fl {n:Int}:wi n a b=true↔a<=n/\n<=b:=by simp[wi]
def smB(g:Gm):Bool:=wi g.D 3 8&&wi g.Z 1 64&&wi g.S 4 64&&wi g.B 1 256&&wi g.P 0 4&&wi g.O 4 64
def rtB(g:Gm):Bool:=smB g&&(decide (g.parts<=g.S)&&decide (2*g.B<=g.S*g.segments))
structure Sm(g:Gm):Prop where
 d0:3<=g.D
 d1:g.D<=8
 z0:1<=g.Z
 z1:g.Z<=64
 s0:4<=g.S
 s1:g.S<=64
 b0:1<=g.B
 b1:g.B<=256
 p0:0<=g.P
 p1:g.P<=4
 o0:4<=g.O
 o1:g.O<=64
theorem Aav {g:Gm}(h:smB g=true):Sm g:=by
 simp only[smB,aR,Fl]at h;exact⟨h.1.1.1.1.1.1,h.1.1.1.1.1.2,h.1.1.1.1.2.1,h.1.1.1.1.2.2,h.1.1.1.2.1,h.1.1.1.2.2,h.1.1.2.1,h.1.1.2.2,h.1.2.1,h.1.2.2,h.2.1,h.2.2⟩
theorem Nw {g:Gm}(h:rtB g=true):Sm g:=Aav (by unfold rtB at h;exact((aR _ _).mp h).1)
theorem Va {A B:Int}(h0:0<=a)(f:a<=A)(h2:0<=b)(j:b<=B):0<=a*b/\a*b<=A*B:=
 ⟨dP h0 h2,Int.mul_le_mul f j h2 (Int.le_trans h0 f)⟩
theorem A3k {A B:Int}(h0:0<=a)(f:a<=A)(h2 : -B<=b)(j:b<=B)(y:0<=B): -(A*B)<=a*b/\a*b<=A*B:=by
 have e1:a*b<=a*B:=bT j h0;have e2:a*B<=A*B:=fC f y;have e3:a*(-B)<=a*b:=bT h2 h0;rw[Int.mul_neg]at e3;omega
theorem Bwc{k:EV->R}:Ale (bin T .shr t) (.int .i64 a) (.int .u64 1) k=k (.int .i64 (a/2)):=by
 cases a with
 | ofNat a=>
  show k (.int .i64 (.ofNat (Nat.shiftRight a 1)))=_;rw[show Nat.shiftRight a 1=a/2 from Nat.shiftRight_succ a 0];rfl
 | negSucc a=>
  show k (.int .i64 ((Int.negSucc a).fdiv (.ofNat 2)))=_;rw[fO _ (by decide)];rfl
theorem Bq5(a b:Int):ltB a b=decide (a<b):=by rw[<-Bfi,Ayg]
theorem min2{j:Array TypeId}:builtin T .min j [.int .i64 a,.int .i64 b] h=some (.int .i64 (min a b),h):=by
 simp only[builtin,Agv,Bo,Bq5];rw[Bs8];by_cases f:b<a
 ·rw[aG f,Int.min_eq_right (by omega)]
 ·rw[aF f,Int.min_eq_left (by omega)]
theorem Ak6(n a b:Int)(h:Ab):Nz K (I n) (I a) (I b) h=some (.bool (wi n a b),h):=by
 simp only[Nz,At1,I,Ac,Buz];by_cases f:a<=n
 ·simp only[f,aB,Ak,dz,A44,wi,bF]
 ·simp only[f,aA,Bo,dz,A44,wi,bA]
theorem A6v(g:Gm)(h:Ab):Aag K (gV g) h=some (.bool (smB g),h.new (.cells (gL g) 23)):=by
 simp only[Aag,gV,Aa];have f:(h.new (.cells (gL g) 23)).get h.next=some (.cells (gL g) 23):=Ad _ _
 generalize h.new (.cells (gL g) 23)=j at f⊢;have w:=fun n a b=>Ak6 (K:=K) n a b j
 simp only[I]at w;simp only[Aa,C8 f rfl,gL,I,w,Ac];unfold smB;cases wi g.D 3 8 with
 | false=>simp only[Aa,Ac,Im,Ip,Is,Ik,Il,bA]
 | true=>
 simp only[Aa,C8 f rfl,gL,I,w,Ac,Im];cases wi g.Z 1 64 with
 | false=>simp only[Aa,Ac,Im,Ip,Is,Ik,Il,bA,cS]
 | true=>
 simp only[Aa,C8 f rfl,gL,I,w,Ac,Ip];cases wi g.S 4 64 with
 | false=>simp only[Aa,Ac,Im,Ip,Is,Ik,Il,bA,cS]
 | true=>
 simp only[Aa,C8 f rfl,gL,I,w,Ac,Is];cases wi g.B 1 256 with
 | false=>simp only[Aa,Ac,Im,Ip,Is,Ik,Il,bA,cS]
 | true=>
 simp only[Aa,C8 f rfl,gL,I,w,Ac,Ik];cases wi g.P 0 4 with
 | false=>simp only[Aa,Ac,Im,Ip,Is,Ik,Il,bA,cS]
 | true=>
 simp only[Aa,C8 f rfl,gL,I,w,Ac,Il,bF]
theorem Av7 {g:Gm}(s:Sm g)(h:Ab):Ub K (gV g) h=some (I g.parts,h.new (.cells (gL g) 23)):=by
 have:=s.b0;have:=s.b1;simp only[Ub,gV,Aa];have f:(h.new (.cells (gL g) 23)).get h.next=some (.cells (gL g) 23):=Ad _ _
 generalize h.new (.cells (gL g) 23)=j at f⊢;simp only[Aa,C8 f rfl,gL,I,Ac];rw[Cj (n:=g.B+2) (by omega) (by omega),Cj (n:=g.B+2-1) (by omega) (by omega),Bnd (by omega) (by omega) (by omega)];simp only[Ac];rw[Cj];rw[show 1+(g.B+2-1)/2=g.parts by unfold Gm.parts;rw[show g.B+2-1=g.B+1 by omega]]
theorem Aak {g:Gm}(s:Sm g)(h:Ab):Jm K (gV g) h=some (I g.De,h.new (.cells (gL g) 23)):=by
 have:=s.d0;have:=s.d1;have:=s.p0;have:=s.p1;obtain⟨j,m1⟩:=Va (a:=g.D) (b:=g.P) (A:=8) (B:=4) (by omega) (by omega) (by omega) (by omega);simp only[Jm,gV,Aa];have f:(h.new (.cells (gL g) 23)).get h.next=some (.cells (gL g) 23):=Ad _ _
 generalize h.new (.cells (gL g) 23)=y at f⊢;simp only[Aa,C8 f rfl,gL,I,Ac];rw[Cj (n:=g.D*g.P) (by omega) (by omega),Cj];rfl
theorem Lo {g:Gm}(s:Sm g)(h:Ab):Da K (gV g) h=some (I (g.D*g.Z),h.new (.cells (gL g) 23)):=by
 have:=s.d0;have:=s.d1;have:=s.z0;have:=s.z1;obtain⟨j,m1⟩:=Va (a:=g.D) (b:=g.Z) (A:=8) (B:=64) (by omega) (by omega) (by omega) (by omega);simp only[Da,gV,Aa];have f:(h.new (.cells (gL g) 23)).get h.next=some (.cells (gL g) 23):=Ad _ _
 generalize h.new (.cells (gL g) 23)=y at f⊢;simp only[Aa,C8 f rfl,gL,I,Ac];rw[Cj (n:=g.D*g.Z) (by omega) (by omega)]
theorem Sm.Bp8 {g:Gm}(s:Sm g):(0<=g.D*g.P/\g.D*g.P<=32)/\(-640<=(g.D-1)*(g.Z-g.P-2)/\(g.D-1)*(g.Z-g.P-2)<=640)/\(-640<=g.D*(g.Z-g.P-2)/\g.D*(g.Z-g.P-2)<=640):=by
 have:=s.d0;have:=s.d1;have:=s.p0;have:=s.p1;have:=s.z0;have:=s.z1;obtain⟨f,j⟩:=Va (a:=g.D) (b:=g.P) (A:=8) (B:=4) (by omega) (by omega) (by omega) (by omega);obtain⟨b0,b1⟩:=A3k (a:=g.D-1) (b:=g.Z-g.P-2) (A:=10) (B:=64) (by omega) (by omega) (by omega) (by omega) (by omega);obtain⟨y,c1⟩:=A3k (a:=g.D) (b:=g.Z-g.P-2) (A:=10) (B:=64) (by omega) (by omega) (by omega) (by omega) (by omega);omega
theorem A1b {g:Gm}(s:Sm g)(h:Ab):Ok (Tu K (gV g) h) fun v h'=>v=I g.segments/\Ext h h':=by
 obtain⟨⟨J,L⟩,⟨b0,b1⟩,O,c1⟩:=s.Bp8;have:=s.d0;have:=s.d1;have:=s.p0;have:=s.p1;have:=s.z0;have:=s.z1;simp only[Tu,gV,Aa];have j:(h.new (.cells (gL g) 23)).get h.next=some (.cells (gL g) 23):=Ad _ _
 have hn:h.next<(h.new (.cells (gL g) 23)).next:=aL _
 have y:Ext h (h.new (.cells (gL g) 23)):=Av.new _ _;generalize h.new (.cells (gL g) 23)=B at j hn y⊢;simp only[Aa,Aw,Cv hn,C8 j rfl,Db j rfl,Ai (show(gL g).length=6 from rfl),gL,I,Ac];rw[Cj (n:=g.Z-g.P) (by omega) (by omega),Cj (n:=g.Z-g.P-2) (by omega) (by omega)];refine Ok.bE (P:=fun v h2=>v=I g.De/\Ext B.lift h2) ⟨_,_,Aak s _,rfl,Av.new _ _⟩ (fun _ _ p=>p.2) ?_;rintro _ h2 C ⟨rfl,_⟩ _ A;have f:C.get h.next=some (.cells (gL g) 23):=by rw[A.get _ hn id];exact j
 simp only[Aa,C8 f rfl,gL,I,Ac];unfold Gm.De;rw[Cj (n:=g.D-1) (by omega) (by omega),Cj (n:=(g.D-1)*(g.Z-g.P-2)) (by omega) (by omega),Cj (n:=(g.D-1)*(g.Z-g.P-2)-(g.D*g.P+4)) (by omega) (by omega),Cj (n:=(g.D-1)*(g.Z-g.P-2)-(g.D*g.P+4)+1) (by omega) (by omega),
  Cj (n:=g.D*(g.Z-g.P-2)) (by omega) (by omega),Cj (n:=2*(g.D*g.P+4)) (by omega) (by omega),Cj (n:=g.D*(g.Z-g.P-2)-2*(g.D*g.P+4)) (by omega) (by omega),Cj (n:=g.D*(g.Z-g.P-2)-2*(g.D*g.P+4)+1) (by omega) (by omega),
  min2,As,Bwc]
 simp only[Ac,Aa,C8 f rfl,gL,I];have E:g.least=min ((g.D-1)*(g.Z-g.P-2)-(g.D*g.P+4)+1) (g.D*(g.Z-g.P-2)-2*(g.D*g.P+4)+1):=rfl;rw[<-E];have F : -10000<=g.least:=by omega
 have G:g.least<=10000:=by omega
 rw[Cj (n:=g.least/2-1) (by omega) (by omega),Cj (n:=g.D*g.P) (by omega) (by omega),Cj (n:=g.least/2-1-g.D*g.P) (by omega) (by omega)];exact .ret ⟨rfl,y.trans A⟩
end
theorem Bqc {g:Gm}(s:Sm g): -2000<=g.segments/\g.segments<=2000:=by
 obtain⟨⟨f,j⟩,⟨b0,b1⟩,y,c1⟩:=s.Bp8;have A:g.least=min ((g.D-1)*(g.Z-g.P-2)-(g.D*g.P+4)+1) (g.D*(g.Z-g.P-2)-2*(g.D*g.P+4)+1):=rfl;have hs:g.segments=g.least/2-1-g.D*g.P:=rfl;omega
theorem Ae1(g:Gm)(h:Ab):Ok (O8 K (gV g) h) fun v h'=>v=.bool (rtB g)/\Ext h h':=by
 simp only[O8,gV,Aa];have y:(h.new (.cells (gL g) 23)).get h.next=some (.cells (gL g) 23):=Ad _ _
 have hn:h.next<(h.new (.cells (gL g) 23)).next:=aL _
 have E:Ext h (h.new (.cells (gL g) 23)):=Av.new _ _;generalize h.new (.cells (gL g) 23)=J at y hn E⊢;simp only[Aa,Aw,Cv hn,C8 y rfl,Db y rfl,Ai (show(gL g).length=6 from rfl)];refine Ok.bE (P:=fun v h2=>v=.bool (smB g)/\Ext J.lift h2) ⟨_,_,A6v g _,rfl,Av.new _ _⟩ (fun _ _ p=>p.2) ?_;rintro _ h2 G ⟨rfl,_⟩ _ F;have C:G.get h.next=some (.cells (gL g) 23):=by rw[F.get _ hn id];exact y
 unfold rtB;cases hs:smB g with
 | false=>simp only[Aa,Ac,Tb,Og,bA];exact .ret ⟨rfl,E.trans F⟩
 | true=>
 have s:=Aav hs;have:=s.b0;have:=s.b1;simp only[Aa,Ac,Aw,Cv hn,C8 C rfl,Db C rfl,Ai (show(gL g).length=6 from rfl),bF];refine Ok.bE (P:=fun v h4=>v=I g.parts/\Ext G.lift h4) ⟨_,_,Av7 s _,rfl,Av.new _ _⟩ (fun _ _ p=>p.2) ?_;rintro _ h4 L ⟨rfl,_⟩ _ O;have f:=F.trans O;have j:L.get h.next=some (.cells (gL g) 23):=by rw[f.get _ hn id];exact y
 simp only[Aa,Ac,Aw,Cv hn,C8 j rfl,gL,I,Tb];by_cases hp:g.parts<=g.S
 ·simp only[hp,aB,Aa,Aw,Cv hn,C8 j rfl,Db j rfl,Ai (show(gL g).length=6 from rfl),gL,I,Ac,bF]
  refine Ok.bE (A1b s _) (fun _ _ p=>p.2) ?_;rintro _ W X ⟨rfl,_⟩ _ U;obtain⟨t0,t1⟩:=Bqc s;have:=s.s0;have:=s.s1;obtain⟨Y,m1⟩:=A3k (a:=g.S) (b:=g.segments) (A:=64) (B:=2000) (by omega) (by omega) (by omega) (by omega) (by omega);simp only[Ac,I,Og,Aa];rw[Cj (n:=2*g.B) (by omega) (by omega),Cj (n:=g.S*g.segments) (by omega) (by omega)];exact .ret ⟨rfl,E.trans (f.trans U)⟩
 ·simp only[hp,aA,Aa,Ac,Og,bA]
  exact .ret ⟨rfl,E.trans f⟩
theorem Brl {n:Int}(h0 : -100000<=n)(f:n<=100000)(h:Ab):Q6 K (I n) h=some (I (n/2),h):=by
 simp only[Q6,I,Ac,Aa];by_cases hn:n<0
 ·simp only[hn,aB,Aa,Ac]
  rw[Cj,Bnd (by omega) (by omega) (by omega)];simp only[Bmv];rw[Cj,show 0-(1-n)/2=n/2 by omega]
 ·simp only[hn,aA,Aa,Acx]
  rw[Bnd (by omega) (by omega) (by omega)]
theorem Bbi {g:Gm}(s:Sm g){a:Nat}(j:h.get a=some (.cells (gL g) 88)):∀(m:Nat) (i:Int),0<=i->(g.B-i).toNat<m->i<=g.B+1->i%2=0 ->
 Hl K m (.ptr a 0) (I (1+i/2)) (I i) h=some (I g.parts,h):=by
 have:=s.b0;have:=s.b1;intro m;induction m with
 | zero=>intro i _ hm;omega
 | succ m y=>
  intro i C hm hle A;simp only[Hl,Aa,Ac,C8 j rfl,gL,I];by_cases f:i<g.B
  ·simp only[f,aB,Aa,Ac,Y7,Y3]
   rw[Cj (n:=1+i/2+1) (by omega) (by omega),Cj (n:=i+2) (by omega) (by omega),show 1+i/2+1=1+(i+2)/2 by omega];exact y (i+2) (by omega) (by omega) (by omega) (by omega)
  ·simp only[f,aA,Aa,Y8]
   unfold Gm.parts;rw[show 1+i/2=1+(g.B+1)/2 by omega]
theorem Blg {g:Gm}(s:Sm g)(hK:1000<K)(h:Ab):Nr K (gV g) h=some (I g.parts,h.new (.cells (gL g) 88)):=by
 have:=s.b0;have:=s.b1;simp only[Nr,gV,Aa];exact Bbi s (Ad _ _) K 0 (by omega) (by omega) (by omega) (by omega)
theorem A92 {g:Gm}(s:Sm g)(h:Ab):Ok (Kn K (gV g) h) fun v h'=>v=I g.segments/\Ext h h':=by
 obtain⟨⟨F,G⟩,⟨b0,b1⟩,J,c1⟩:=s.Bp8;have:=s.d0;have:=s.d1;have:=s.p0;have:=s.p1;have:=s.z0;have:=s.z1;simp only[Kn,gV,Aa];have j:(h.new (.cells (gL g) 88)).get h.next=some (.cells (gL g) 88):=Ad _ _
 have hn:h.next<(h.new (.cells (gL g) 88)).next:=aL _
 have A:Ext h (h.new (.cells (gL g) 88)):=Av.new _ _;generalize h.new (.cells (gL g) 88)=B at j hn A⊢;have L:g.least=min ((g.D-1)*(g.Z-g.P-2)-(g.D*g.P+4)+1) (g.D*(g.Z-g.P-2)-2*(g.D*g.P+4)+1):=rfl;have fin:∀n,n=g.least->Ok (Mm K (.ptr h.next 0) (I n) B) fun v h'=>v=I g.segments/\Ext h h':=by
  rintro _ rfl;simp only[Mm,Aa];refine Ok.bE (P:=fun v h2=>v=I (g.least/2)/\Ext B.lift h2) ⟨_,_,Brl (by omega) (by omega) _,rfl,Av.refl _⟩ (fun _ _ p=>p.2) ?_;rintro _ h2 E ⟨rfl,_⟩ _ C;have y:E.get h.next=some (.cells (gL g) 88):=by rw[C.get _ hn id];exact j
  simp only[Aa,Aw,Cv hn,C8 y rfl,gL,I,Ac];rw[Cj (n:=g.least/2-1) (by omega) (by omega),Cj (n:=g.D*g.P) (by omega) (by omega),Cj (n:=g.least/2-1-g.D*g.P) (by omega) (by omega)];exact .ret ⟨rfl,A.trans C⟩
 simp only[Aa,C8 j rfl,gL,I,Ac];rw[Cj (n:=g.Z-g.P) (by omega) (by omega),Cj (n:=g.Z-g.P-2) (by omega) (by omega),Cj (n:=g.D*g.P) (by omega) (by omega),Cj (n:=g.D*g.P+4) (by omega) (by omega),
  Cj (n:=g.D-1) (by omega) (by omega),Cj (n:=(g.D-1)*(g.Z-g.P-2)) (by omega) (by omega),Cj (n:=(g.D-1)*(g.Z-g.P-2)-(g.D*g.P+4)) (by omega) (by omega),Cj (n:=(g.D-1)*(g.Z-g.P-2)-(g.D*g.P+4)+1) (by omega) (by omega),
  Cj (n:=g.D*(g.Z-g.P-2)) (by omega) (by omega),Cj (n:=2*(g.D*g.P+4)) (by omega) (by omega),Cj (n:=g.D*(g.Z-g.P-2)-2*(g.D*g.P+4)) (by omega) (by omega),Cj (n:=g.D*(g.Z-g.P-2)-2*(g.D*g.P+4)+1) (by omega) (by omega)]
 by_cases f:g.D*(g.Z-g.P-2)-2*(g.D*g.P+4)+1<(g.D-1)*(g.Z-g.P-2)-(g.D*g.P+4)+1
 ·simp only[f,aB,Aa]
  exact fin _ (by omega)
 ·simp only[f,aA,Aa]
  exact fin _ (by omega)
theorem Bl1(g:Gm)(hK:1000<K)(h:Ab):Ok (Jt K (gV g) h) fun v h'=>v=.bool (rtB g)/\Ext h h':=by
 simp only[Jt,gV,Aa];have j:(h.new (.cells (gL g) 88)).get h.next=some (.cells (gL g) 88):=Ad _ _
 have hn:h.next<(h.new (.cells (gL g) 88)).next:=aL _
 have C:Ext h (h.new (.cells (gL g) 88)):=Av.new _ _;generalize h.new (.cells (gL g) 88)=W at j hn C⊢;have no:∀b,b=false->Ok (some (.bool false,W)) fun v h'=>v=.bool (b&&(decide (g.parts<=g.S)&&decide (2*g.B<=g.S*g.segments)))/\Ext h h':=by
  rintro _ rfl;exact .ret ⟨by rw[bA],C⟩
 unfold rtB;have f:∀{p:Prop} [Decidable p],¬p->(smB g=true->p)->smB g=false:=fun hp hq=>by
  cases hb:smB g with
  | false=>rfl
  | true=>exact absurd (hq hb) hp
 simp only[Aa,C8 j rfl,gL,I,Ac];by_cases c1:g.D<3
 ·simp only[c1,aB,Aa,Ac,J0,Ha,E8,Ek,Dw,Dc,Cx,Cn,Cf,Bz,Bw]
  exact no _ (f (p:=¬g.D<3) (by simpa using c1) fun hb=>by have:=(Aav hb).d0;omega)
 simp only[c1,aA,Aa,Ac,C8 j rfl,gL,I,J0];by_cases c2:8<g.D
 ·simp only[c2,aB,Aa,Ac,Ha,E8,Ek,Dw,Dc,Cx,Cn,Cf,Bz,Bw]
  exact no _ (f (p:=¬8<g.D) (by simpa using c2) fun hb=>by have:=(Aav hb).d1;omega)
 simp only[c2,aA,Aa,Ac,C8 j rfl,gL,I,Ha];by_cases c3:g.Z<1
 ·simp only[c3,aB,Aa,Ac,E8,Ek,Dw,Dc,Cx,Cn,Cf,Bz,Bw]
  exact no _ (f (p:=¬g.Z<1) (by simpa using c3) fun hb=>by have:=(Aav hb).z0;omega)
 simp only[c3,aA,Aa,Ac,C8 j rfl,gL,I,E8];by_cases c4:64<g.Z
 ·simp only[c4,aB,Aa,Ac,Ek,Dw,Dc,Cx,Cn,Cf,Bz,Bw]
  exact no _ (f (p:=¬64<g.Z) (by simpa using c4) fun hb=>by have:=(Aav hb).z1;omega)
 simp only[c4,aA,Aa,Ac,C8 j rfl,gL,I,Ek];by_cases E:g.S<4
 ·simp only[E,aB,Aa,Ac,Dw,Dc,Cx,Cn,Cf,Bz,Bw]
  exact no _ (f (p:=¬g.S<4) (by simpa using E) fun hb=>by have:=(Aav hb).s0;omega)
 simp only[E,aA,Aa,Ac,C8 j rfl,gL,I,Dw];by_cases F:64<g.S
 ·simp only[F,aB,Aa,Ac,Dc,Cx,Cn,Cf,Bz,Bw]
  exact no _ (f (p:=¬64<g.S) (by simpa using F) fun hb=>by have:=(Aav hb).s1;omega)
 simp only[F,aA,Aa,Ac,C8 j rfl,gL,I,Dc];by_cases G:g.B<1
 ·simp only[G,aB,Aa,Ac,Cx,Cn,Cf,Bz,Bw]
  exact no _ (f (p:=¬g.B<1) (by simpa using G) fun hb=>by have:=(Aav hb).b0;omega)
 simp only[G,aA,Aa,Ac,C8 j rfl,gL,I,Cx];by_cases J:256<g.B
 ·simp only[J,aB,Aa,Ac,Cn,Cf,Bz,Bw]
  exact no _ (f (p:=¬256<g.B) (by simpa using J) fun hb=>by have:=(Aav hb).b1;omega)
 simp only[J,aA,Aa,Ac,C8 j rfl,gL,I,Cn];by_cases L:g.P<0
 ·simp only[L,aB,Aa,Ac,Cf,Bz,Bw]
  exact no _ (f (p:=¬g.P<0) (by simpa using L) fun hb=>by have:=(Aav hb).p0;omega)
 simp only[L,aA,Aa,Ac,C8 j rfl,gL,I,Cf];by_cases d1:4<g.P
 ·simp only[d1,aB,Aa,Ac,Bz,Bw]
  exact no _ (f (p:=¬4<g.P) (by simpa using d1) fun hb=>by have:=(Aav hb).p1;omega)
 simp only[d1,aA,Aa,Ac,C8 j rfl,gL,I,Bz];by_cases d2:g.O<4
 ·simp only[d2,aB,Aa,Ac,Bw]
  exact no _ (f (p:=¬g.O<4) (by simpa using d2) fun hb=>by have:=(Aav hb).o0;omega)
 simp only[d2,aA,Aa,Ac,C8 j rfl,gL,I,Bw];by_cases d3:64<g.O
 ·simp only[d3,aB,Aa]
  exact no _ (f (p:=¬64<g.O) (by simpa using d3) fun hb=>by have:=(Aav hb).o1;omega)
 have hs:smB g=true:=by
  simp only[smB,aR,Fl];omega
 have s:=Aav hs;rw[hs];simp only[d3,aA,Aa,Ac,Zd,Aw,Cv hn,Db j rfl,Ai (show(gL g).length=6 from rfl),bF];refine Ok.bE (P:=fun v h4=>v=I g.parts/\Ext W.lift h4) ⟨_,_,Blg s hK _,rfl,Av.new _ _⟩ (fun _ _ p=>p.2) ?_;rintro _ h4 X ⟨rfl,_⟩ _ U;have y:X.get h.next=some (.cells (gL g) 88):=by rw[U.get _ hn id];exact j
 simp only[Aa,Ac,Aw,Cv hn,C8 y rfl,gL,I];by_cases hp:g.parts<=g.S
 ·simp only[hp,aB,Aa,Aw,Cv hn,C8 y rfl,Db y rfl,Ai (show(gL g).length=6 from rfl),gL,I,Ac,bF]
  refine Ok.bE (A92 s _) (fun _ _ p=>p.2) ?_;rintro _ h6 h7 ⟨rfl,_⟩ _ Y;obtain⟨t0,t1⟩:=Bqc s;have:=s.s0;have:=s.s1;have:=s.b0;have:=s.b1;obtain⟨m0,m1⟩:=A3k (a:=g.S) (b:=g.segments) (A:=64) (B:=2000) (by omega) (by omega) (by omega) (by omega) (by omega);simp only[Ac,I,Kq,Aa];rw[Cj (n:=2*g.B) (by omega) (by omega),Cj (n:=g.S*g.segments) (by omega) (by omega)];exact .ret ⟨rfl,C.trans (U.trans Y)⟩
 ·simp only[hp,aA,Aa,Ac,Kq,bA]
  exact .ret ⟨rfl,C.trans U⟩
theorem A97(f:1<=n)(h2:n<=4096)(h:Ab):Au2 K (I n) h=some (.tuple [.ptr (h.next+1) 0,I 0],(h.new (.chan n [])).new (.cells [.chan h.next] 176)):=by
 simp only[Au2,I,Ac,Aa];have a:¬(n:Int)<1:=by omega
 have b:¬(4096:Int)<(n:Int):=by omega
 simp only[a,b,aA,Aa,Ac,Ayo,Azz];have hm:Au7 (.int .i64 (n:Int)) h=some (.chan h.next,h.new (.chan n [])):=by
  show Bf (Nat.ble n 65536) _ none=_;rw[aS (by omega),Ak]
 rw[hm,As,Ay (l:=[.chan h.next]) rfl];simp only[Aa];rfl
structure Fy(h:Ab)(p ql n:Nat)(q c:Nat->Nat)(g:Gm)(ps:Nat->List Int):Prop where
 pos:0<n
 Hp:h.get p=some (.cells (gL g++[.slice ql 0 n n true]) 123)
 row:h.get ql=some (.vec ((List.range n).map fun d=>.ptr (q d) 0) 124 1)
 que:∀d,d<n->h.get (q d)=some (.cells [.chan (c d)] 176)
 chan:∀d,d<n->h.get (c d)=some (.chan g.Z.toNat ((ps d).map I))
 inj:∀d e,d<n->e<n->c d=c e->d=e
structure Be9(h0 h:Ab)(p ql i:Nat)(q c:Nat->Nat)(g:Gm)(s:EV):Prop where
 Hp:h.get p=some (.cells (gL g++[s]) 123)
 row:Cs h s ql 124 1 i ((List.range i).map fun d=>.ptr (q d) 0)
 que:∀d,d<i->h.get (q d)=some (.cells [.chan (c d)] 176)
 chan:∀d,d<i->h.get (c d)=some (.chan g.Z.toNat [])
 inj:∀d e,d<i->e<i->c d=c e->d=e
 new:h0.next<=p/\(0<i->h0.next<=ql)/\∀d,d<i->h0.next<=q d/\h0.next<=c d
 ext:Ext h0 h
 hb:HB h
theorem A6e {g:Gm}(s:Sm g)(h0:Ab){b p:Nat}(Y:b<h0.next)(hg:h0.get b=some (.cells (gL g) 23)):∀(m i:Nat) (ql:Nat) (q c:Nat->Nat) (B:EV) (h:Ab),g.D.toNat-i<m->i<=g.D.toNat->Be9 h0 h p ql i q c g B ->
 Ok (Agg K m (.ptr b 0) (.ptr p 0) (I g.D) (I i) h) fun v h'=>v=.tuple [.ptr p 0,I 0]/\Ext h0 h'/\HB h'/\∃ql q c B,Be9 h0 h' p ql g.D.toNat q c g B:=by
 have:=s.d0;have:=s.d1;have:=s.z0;have:=s.z1;intro m;induction m with
 | zero=>intro i _ _ _ _ _ hm;omega
 | succ m ih=>
  intro i ql q c B h hm hi P;simp only[Agg,I,Ac,Aa];by_cases J:(i:Int)<g.D
  ·have aa:h.get b=some (.cells (gL g) 23):=by rw[P.ext.get _ Y id];exact hg
   simp only[J,aB,Aa,A1i,C8 aa rfl,gL,I];have hq:=A97 (K:=K) (n:=g.Z.toNat) (by omega) (by omega) h;rw[fV (by omega)]at hq;simp only[I]at hq;simp only[hq,Aa,Ac,aD,aA,A2m];have e1:Ext h ((h.new (.chan g.Z.toNat [])).new (.cells [.chan h.next] 176)):=(Av.new _ _).trans (Av.new _ _);have y:HB ((h.new (.chan g.Z.toNat [])).new (.cells [.chan h.next] 176)):=(P.hb.new _).new _;have gq:((h.new (.chan g.Z.toNat [])).new (.cells [.chan h.next] 176)).get (h.next+1)=some (.cells [.chan h.next] 176):=Ad _ _;have gc:((h.new (.chan g.Z.toNat [])).new (.cells [.chan h.next] 176)).get h.next=some (.chan g.Z.toNat []):=by rw[Az _ (aL _)];exact Ad _ _
   have n1:((h.new (.chan g.Z.toNat [])).new (.cells [.chan h.next] 176)).next=h.next+2:=rfl
   generalize (h.new (.chan g.Z.toNat [])).new (.cells [.chan h.next] 176)=A at e1 y gq gc n1⊢;have gp:A.get p=some (.cells (gL g++[B]) 123):=e1.at P.hb P.Hp;have F:Cs A B ql 124 1 i ((List.range i).map fun d=>.ptr (q d) 0):=P.row.frame fun hl=>e1.get _ (P.hb _ _ (P.row.block hl)) id
   have lp:=P.hb _ _ P.Hp;rw[C8 gp rfl,show(gL g++[B])[6]? = some B from rfl,Ia];refine Qe (z:=[.E3]) F y rfl rfl rfl (by omega) (by omega) ?_;intro h2 G n2 c2;have n0:=P.ext.next
   have C:∀x o,A.get x=some o->(∀l e sz,o≠.vec l e sz)->¬(0<i/\x=ql):=by
    rintro x o X L ⟨hl,rfl⟩;rw[F.block hl]at X;cases X;exact L _ _ _ rfl
   have U:h2.get p=some (.cells (gL g++[B]) 123):=c2.at y gp (C _ _ gp (by intros;simp));refine Ok.st (gL g++[EV.slice (A.next+1) 0 (i+1) (i+1) true]) U rfl rfl rfl ?_;simp only[A1l,I,Ac];rw[Cj];have hE:Ext h h2->Ext h0 h2:=fun x=>P.ext.trans x
   have x2:Ext h0 h2:=by
    refine(P.ext.trans e1).then c2 fun j hj J=>?_
    have:=(P.new.2.1 hj.1);omega
   have x3:Ext h0 (h2.put p (.cells (gL g++[EV.slice (A.next+1) 0 (i+1) (i+1) true]) 123)):=x2.Ar (.inr P.new.1) (by have:=c2.next;omega) _;have af:=c2.hb y;have ag:HB (h2.put p (.cells (gL g++[EV.slice (A.next+1) 0 (i+1) (i+1) true]) 123)):=af.put (by have:=c2.next;omega) _;have By:∀x o,h.get x=some o->(∀l e sz,o≠.vec l e sz)->x≠p->(h2.put p (.cells (gL g++[EV.slice (A.next+1) 0 (i+1) (i+1) true]) 123)).get x=some o:=by
    intro x o X L ah;rw[Ag _ (cV ah)];have W:=e1.at P.hb X;exact c2.at y W (C _ _ W L)
   have au:h.next<A.next:=by omega
   have P':Be9 h0 (h2.put p (.cells (gL g++[EV.slice (A.next+1) 0 (i+1) (i+1) true]) 123)) p (A.next+1) (i+1) (fun d=>if d=i then h.next+1 else q d) (fun d=>if d=i then h.next else c d) g (.slice (A.next+1) 0 (i+1) (i+1) true):=by
    refine⟨Af _ _ _,?_,?_,?_,?_,⟨P.new.1,fun _=>by omega,?_⟩,x3,ag⟩
    ·have:(List.range (i+1)).map (fun d=>EV.ptr (if d=i then h.next+1 else q d) 0)=((List.range i).map fun d=>EV.ptr (q d) 0)++EV.cells (.ptr (h.next+1) 0):=by
      rw[dA,cX];congr 1
      ·refine cj fun d hd=>?_
       rw[aF (by have:=dG.1 hd;omega)]
      ·simp[EV.cells]
     rw[this];refine G.frame fun _=>Ag _ ?_
     have:=G.block (by omega);exact Bb U this (by simp)
    ·intro d hd
     by_cases f:d=i
     ·subst f
      simp only[bM];rw[Ag _];exact c2.at y gq (C _ _ gq (by intros;simp))
     ·simp only[f,bD]
      have:=P.que d (by omega);exact By _ _ this (by intros;simp) (Bb this P.Hp (by simp))
    ·intro d hd
     by_cases f:d=i
     ·subst f
      simp only[bM];rw[Ag _];exact c2.at y gc (C _ _ gc (by intros;simp))
     ·simp only[f,bD]
      have:=P.chan d (by omega);exact By _ _ this (by intros;simp) (Bb this P.Hp (by simp))
    ·intro d e hd he E
     have lc:=fun d (hd:d<i)=>P.hb _ _ (P.chan d hd)
     by_cases f:d=i<;>by_cases O:e=i
     ·omega
     ·simp only[f,O,bM,bD]at E;have:=lc e (by omega);omega
     ·simp only[f,O,bM,bD]at E;have:=lc d (by omega);omega
     ·simp only[f,O,bD]at E;exact P.inj d e (by omega) (by omega) E
    ·intro d hd
     by_cases f:d=i
     ·subst f;simp only[bM];omega
     ·simp only[f,bD];exact P.new.2.2 d (by omega)
   exact ih (i+1) _ _ _ _ _ (by omega) (by omega) P'
  ·have:i=g.D.toNat:=by omega
   subst this;simp only[J,aA,Aa,A2p];exact .ret ⟨rfl,P.ext,P.hb,ql,q,c,B,P⟩
theorem Bbe {g:Gm}(U:rtB g=true)(hK:1000<K)(hb:HB h):Ok (Ao3 K (gV g) h) fun v h'=>∃p ql q c,v=.tuple [.ptr p 0,I 0]/\Ext h h'/\HB h'/\Fy h' p ql g.D.toNat q c g (fun _=>[])/\h.next<=p/\h.next<=ql/\∀d,d<g.D.toNat->h.next<=q d/\h.next<=c d:=by
 have s:=Nw U;have:=s.d0;have:=s.d1;simp only[Ao3,gV,Aa];have G:(h.new (.cells (gL g) 23)).get h.next=some (.cells (gL g) 23):=Ad _ _
 have hn:h.next<(h.new (.cells (gL g) 23)).next:=aL _
 have F:Ext h (h.new (.cells (gL g) 23)):=Av.new _ _;generalize h.new (.cells (gL g) 23)=X at G hn F⊢;simp only[Db G rfl,Ai (show(gL g).length=6 from rfl),Aa];refine(Ae1 g X).An ?_;rintro _ h2 ⟨rfl,y⟩;rw[U];have j:h2.get h.next=some (.cells (gL g) 23):=by rw[y.get _ hn id];exact G
 have A:h.next<h2.next:=aK hn y.next
 simp only[Aa,A2o,Db j rfl,Ai (show(gL g).length=6 from rfl)];rw[Ay (l:=gL g++[.Ao]) rfl];simp only[Aa];have J:=(y.hb (F.hb hb));have B:(h2.new (.cells (gL g++[.Ao]) 123)).get h.next=some (.cells (gL g) 23):=by rw[Az _ A];exact j
 have C:(h2.new (.cells (gL g++[.Ao]) 123)).get h2.next=some (.cells (gL g++[.Ao]) 123):=Ad _ _
 have W:Ext h2 (h2.new (.cells (gL g++[.Ao]) 123)):=Av.new _ _;have E:HB (h2.new (.cells (gL g++[.Ao]) 123)):=J.new _;have n3:h2.next<(h2.new (.cells (gL g++[.Ao]) 123)).next:=aL _
 generalize h2.new (.cells (gL g++[.Ao]) 123)=Y at B C W E n3⊢;simp only[C8 B rfl,gL,Aa,I];refine(A6e (K:=K) (p:=h2.next) s h2 A j K 0 0 (fun _=>0) (fun _=>0) .Ao Y (by omega) (by omega) ⟨C,.nil _ _ _ _,fun d hd=>absurd hd (br _),fun d hd=>absurd hd (br _),fun d e hd=>absurd hd (br _),⟨aE _,fun x=>absurd x (bS _),fun d hd=>absurd hd (br _)⟩,W,E⟩).mono ?_;rintro v h' ⟨rfl,x4,L,ql,q,c,sl,P⟩;refine⟨h2.next,ql,q,c,rfl,F.trans (y.trans x4),L,?_⟩;have f:0<g.D.toNat:=by omega
 have O:=P.row.slice f;subst O;have t:=F.next
 have t2:=y.next
 exact⟨⟨f,P.Hp,P.row.block f,P.que,P.chan,P.inj⟩,by omega,by have:=P.new.2.1 f;omega,fun d hd=>by have:=P.new.2.2 d hd;omega⟩
theorem Bb1 {g:Gm}(f:rtB g=false)(h:Ab):Ok (Ao3 K (gV g) h) fun v h'=>v=.tuple [.E3,I 20]/\Ext h h':=by
 simp only[Ao3,gV,Aa];obtain⟨j,y,A,B,_⟩:=nW h (.cells (gL g) 23);rw[y];simp only[Db B rfl,Ai (show(gL g).length=6 from rfl),Aa];refine(Ae1 g j).An ?_;rintro _ h2 ⟨rfl,C⟩;rw[f];simp only[Aa];exact .ret ⟨rfl,A.trans C⟩
theorem A4r(n a:Int)(h:Ab):Afq K (I n) (I a) h=some (.bool (wi n 1 a),h):=by
 simp only[Afq,I,Ac,Aa];by_cases f:1<=n
 ·simp only[f,aB,Aa,Ac,Ajx,wi,bF]
 ·simp only[f,aA,Aa,Ac,Ajx,wi,bA]
def Aaf(size:Int):Ec:=.cells [.Ao,I size,I 0,I 0,.bool false] 202
theorem A8j {size:Int}(f:1<=size)(h2:size<=64)(h:Ab):Ov K (I size) h=some (.tuple [.ptr h.next 0,I 0],h.new (Aaf size)):=by
 have a:¬size<1:=by omega
 have b:¬64<size:=by omega
 simp only[Ov,I,Ac,Aa,a,b,aA,Z0,Z9];rw[Ay (l:=[.Ao,I size,I 0,I 0,.bool false]) rfl];simp only[Aa];rfl
structure Zn where
 l:List (List EV)
 safe:Nat
 st:Nat
 fin:Bool
def Zn.empty:Zn:=⟨[],0,0,false⟩
structure Gh(h:Ab)(z q:Nat)(size:Int)(Z:Zn):Prop where
 Aj:∃s,h.get z=some (.cells [s,I size,I Z.safe,I Z.st,.bool Z.fin] 202)/\Cs h s q 30 64 Z.l.length Z.l.flatten
 wf:∀x∈Z.l,x.length=64
structure Oe(h:Ab)(V zl n:Nat)(z q:Nat->Nat)(size op cnt:Int)(down:Bool)(Zs:Nat->Zn):Prop where
 pos:0<n
 dev:h.get V=some (.cells [.slice zl 0 n n true,I size,I op,I cnt,.bool down] 183)
 row:h.get zl=some (.vec ((List.range n).map fun i=>.ptr (z i) 0) 184 1)
 Aj:∀i,i<n->Gh h (z i) (q i) size (Zs i)
 Baz:∀i j,i<n->j<n->z i=z j->i=j
 Bcu:∀i j,i<n->j<n->(Zs i).l≠[]->(Zs j).l≠[]->q i=q j->i=j
structure Bh4(h0 h:Ab)(V zl i:Nat)(z:Nat->Nat)(size op:Int)(s:EV):Prop where
 dev:h.get V=some (.cells [s,I size,I op,I 0,.bool false] 183)
 row:Cs h s zl 184 1 i ((List.range i).map fun d=>.ptr (z d) 0)
 Aj:∀d,d<i->h.get (z d)=some (Aaf size)
 Baz:∀d e,d<i->e<i->z d=z e->d=e
 new:h0.next<=V/\(0<i->h0.next<=zl)/\∀d,d<i->h0.next<=z d
 ext:Ext h0 h
 hb:HB h
theorem A54 {size:Int}(hn:n<=512)(s0:1<=size)(s1:size<=64)(h0:Ab):∀(m i:Nat) (zl:Nat) (z:Nat->Nat) (F:EV) (h:Ab),n-i<m->i<=n->Bh4 h0 h V zl i z size op F ->
 Ok (Afa K m (I size) (.ptr V 0) (I n) (I i) h) fun v h'=>v=.tuple [.ptr V 0,I 0]/\∃zl z F,Bh4 h0 h' V zl n z size op F:=by
 intro m;induction m with
 | zero=>intro i _ _ _ _ hm;omega
 | succ m ih=>
  intro i zl z F h hm hi P;simp only[Afa,I,Ac,Aa];by_cases G:(i:Int)<n
  ·simp only[G,aB,Aa,A1d]
   have hq:=A8j (K:=K) s0 s1 h;simp only[I]at hq;simp only[hq,Aa,Ac,aD,aA,A1x];have e1:Ext h (h.new (Aaf size)):=Av.new _ _;have y:HB (h.new (Aaf size)):=P.hb.new _;have gz:(h.new (Aaf size)).get h.next=some (Aaf size):=Ad _ _
   have n1:(h.new (Aaf size)).next=h.next+1:=rfl
   generalize h.new (Aaf size)=A at e1 y gz n1⊢;have O:A.get V=some (.cells [F,I size,I op,I 0,.bool false] 183):=e1.at P.hb P.dev;have C:Cs A F zl 184 1 i ((List.range i).map fun d=>.ptr (z d) 0):=P.row.frame fun hl=>e1.get _ (P.hb _ _ (P.row.block hl)) id
   have lp:=P.hb _ _ P.dev;rw[C8 O rfl];simp only[Aa];refine Qe (z:=[.E3]) C y rfl rfl rfl (by omega) (by omega) ?_;intro h2 E n2 c2;have n0:=P.ext.next
   have U:∀x o,A.get x=some o->(∀l e sz,o≠.vec l e sz)->¬(0<i/\x=zl):=by
    rintro x o hx J ⟨hl,rfl⟩;rw[C.block hl]at hx;cases hx;exact J _ _ _ rfl
   have W:=c2.at y O (U _ _ O (by intros;simp));refine Ok.st1 W rfl rfl (by show 0<5;decide) ?_;simp only[A2c,I,Ac,List.set];rw[Cj];have x2:Ext h0 h2:=by
    refine(P.ext.trans e1).then c2 fun j hj G=>?_
    have:=(P.new.2.1 hj.1);omega
   have ad:=c2.hb y;have X:V<h2.next:=by have:=c2.next;omega
   have x3:=x2.Ar (.inr P.new.1) X (.cells [EV.slice (A.next+1) 0 (i+1) (i+1) true,I size,I op,I 0,.bool false] 183);have ae:=ad.put X (.cells [EV.slice (A.next+1) 0 (i+1) (i+1) true,I size,I op,I 0,.bool false] 183);have By:∀x o,A.get x=some o->(∀l e sz,o≠.vec l e sz)->x≠V->(h2.put V (.cells [EV.slice (A.next+1) 0 (i+1) (i+1) true,I size,I op,I 0,.bool false] 183)).get x=some o:=by
    intro x o Y J af;rw[Ag _ (cV af)];exact c2.at y Y (U _ _ Y J)
   have P':Bh4 h0 (h2.put V (.cells [EV.slice (A.next+1) 0 (i+1) (i+1) true,I size,I op,I 0,.bool false] 183)) V (A.next+1) (i+1) (fun d=>if d=i then h.next else z d) size op (.slice (A.next+1) 0 (i+1) (i+1) true):=by
    refine⟨Af _ _ _,?_,?_,?_,⟨P.new.1,fun _=>by omega,?_⟩,x3,ae⟩
    ·have:(List.range (i+1)).map (fun d=>EV.ptr (if d=i then h.next else z d) 0)=((List.range i).map fun d=>EV.ptr (z d) 0)++EV.cells (.ptr h.next 0):=by
      rw[dA,cX];congr 1
      ·refine cj fun d hd=>?_
       rw[aF (by have:=dG.1 hd;omega)]
      ·simp[EV.cells]
     rw[this];refine E.frame fun _=>Ag _ ?_
     have:=E.block (by omega);exact Bb W this (by simp)
    ·intro d hd
     by_cases f:d=i
     ·subst f
      simp only[bM];exact By _ _ gz (by intros;simp[Aaf]) (Bb gz O (by simp[Aaf]))
     ·simp only[f,bD]
      have:=e1.at P.hb (P.Aj d (by omega));exact By _ _ this (by intros;simp[Aaf]) (Bb this O (by simp[Aaf]))
    ·intro d e hd he B
     have lc:=fun d (hd:d<i)=>P.hb _ _ (P.Aj d hd)
     by_cases f:d=i<;>by_cases L:e=i
     ·omega
     ·simp only[f,L,bM,bD]at B;have:=lc e (by omega);omega
     ·simp only[f,L,bM,bD]at B;have:=lc d (by omega);omega
     ·simp only[f,L,bD]at B;exact P.Baz d e (by omega) (by omega) B
    ·intro d hd
     by_cases f:d=i
     ·subst f;simp only[bM];omega
     ·simp only[f,bD];exact P.new.2.2 d (by omega)
   exact ih (i+1) _ _ _ _ (by omega) (by omega) P'
  ·have:i=n:=by omega
   subst this;simp only[G,aA,Aa,A1n];exact .ret ⟨rfl,zl,z,F,P⟩
def Asy(Agb size op:Int):Bool:=wi Agb 1 512&&wi op 1 64&&wi size 1 64
theorem Bak {Agb size:Int}(A:Asy Agb size op=true)(hK:1000<K)(hb:HB h):Ok (Ayk K (I Agb) (I size) (I op) h) fun v h'=>∃V zl z,v=.tuple [.ptr V 0,I 0]/\Ext h h'/\HB h'/\Oe h' V zl Agb.toNat z (fun _=>0) size op 0 false (fun _=>Zn.empty)/\h.next<=V/\h.next<=zl/\∀d,d<Agb.toNat->h.next<=z d:=by
 simp only[Asy,aR]at A;obtain⟨⟨B,C⟩,E⟩:=A;obtain⟨L,O⟩:=Fl.1 B;obtain⟨F,c1⟩:=Fl.1 E;have w:=fun n a=>A4r (K:=K) n a h
 simp only[I]at w;simp only[Ayk,I,w,B,C,Aa,Ac,A2i,A15];rw[Ay (l:=[.Ao,I size,I op,I 0,.bool false]) rfl];simp only[Aa];have P:Bh4 h (h.new (.cells [.Ao,I size,I op,I 0,.bool false] 183)) h.next 0 0 (fun _=>0) size op .Ao:=
  ⟨Ad _ _,.nil _ _ _ _,fun d hd=>absurd hd (br _),fun d e hd=>absurd hd (br _),⟨aE _,fun x=>absurd x (bS _),fun d hd=>absurd hd (br _)⟩,Av.new _ _,hb.new _⟩
 have:=A54 (K:=K) (n:=Agb.toNat) (by omega) F c1 h K 0 0 (fun _=>0) .Ao _ (by omega) (by omega) P;rw[fV (by omega)]at this;refine this.mono ?_;rintro v h' ⟨rfl,zl,z,U,P⟩;have f:0<Agb.toNat:=by omega
 have y:=P.row.slice f;subst y;exact⟨h.next,zl,z,rfl,P.ext,P.hb,⟨f,P.dev,P.row.block f,fun i G=>⟨⟨_,P.Aj i G,.nil _ _ _ _⟩,fun x J=>by cases J⟩,P.Baz,fun i j _ _ a=>absurd rfl a⟩,aE _,P.new.2.1 f,P.new.2.2⟩
structure Als(h:Ab)(D V M zl n:Nat)(z q:Nat->Nat)(size op cnt:Int)(down:Bool)(Lm happened:EV)(marks:List (EV × EV))(Zs:Nat->Zn):Prop where
 Eb:h.get D=some (.cells [.ptr V 0,Lm,happened,.map M] 143)
 marks:h.get M=some (.map marks)
 dev:Oe h V zl n z q size op cnt down Zs
theorem Oe.ext{z q:Nat->Nat}{size:Int}{Zs:Nat->Zn}(d:Oe h V zl n z q size op cnt down Zs)(g:∀i o,h.get i=some o->h'.get i=some o):Oe h' V zl n z q size op cnt down Zs:=by
 refine⟨d.pos,g _ _ d.dev,g _ _ d.row,fun i f=>?_,d.Baz,d.Bcu⟩;obtain⟨s,a,b⟩:=(d.Aj i f).Aj;exact⟨⟨s,g _ _ a,b.frame fun j=>by rw[g _ _ (b.block j),b.block j]⟩,(d.Aj i f).wf⟩
theorem Fy.ext{p:Nat}{q c:Nat->Nat}{g:Gm}(d:Fy h p ql n q c g ps)(e:∀i o,h.get i=some o->h'.get i=some o):Fy h' p ql n q c g ps:=
 ⟨d.pos,e _ _ d.Hp,e _ _ d.row,fun i f=>e _ _ (d.que i f),fun i f=>e _ _ (d.chan i f),d.inj⟩
theorem Als.ext{M:Nat}{z q:Nat->Nat}{size:Int}{Zs:Nat->Zn}(d:Als h D V M zl n z q size op cnt down Lm happened marks Zs)(e:∀i o,h.get i=some o->h'.get i=some o):
 Als h' D V M zl n z q size op cnt down Lm happened marks Zs:=⟨e _ _ d.Eb,e _ _ d.marks,d.dev.ext e⟩
theorem Bat {Agb size:Int}(B:Asy Agb size op=true)(hK:1000<K)(hb:HB h):Ok (Asq K (I Agb) (I size) (I op) h) fun v h'=>∃D V M zl z,v=.tuple [.ptr D 0,I 0]/\Ext h h'/\HB h'/\Als h' D V M zl Agb.toNat z (fun _=>0) size op 0 false .Ao .Ao [] (fun _=>Zn.empty)/\(h.next<=D/\h.next<=M)/\h.next<=V/\h.next<=zl/\∀d,d<Agb.toNat->h.next<=z d:=by
 simp only[Asq,dr];refine(Bak (K:=K) B hK hb).An ?_;rintro _ f ⟨V,zl,z,rfl,y,j,d1,nw⟩;simp only[Aa,Ac,I,aD,aA,A2t];rw[show Ayh f=some (.map f.next,f.new (.map []))from rfl,As,Ay (l:=[.ptr V 0,.Ao,.Ao,.map f.next]) rfl];simp only[Aa];have A:Ext f ((f.new (.map [])).new (.cells [.ptr V 0,.Ao,.Ao,.map f.next] 143)):=(Av.new _ _).Ds _;refine .ret ⟨(f.new (.map [])).next,V,f.next,zl,z,rfl,y.trans A,(j.new _).new _,⟨Ad _ _,?_,d1.ext fun i o g=>A.at j g⟩,⟨by have:=y.next;show h.next<=f.next+1;omega,y.next⟩,nw⟩;rw[Az _ (aL _)];exact Ad _ _
section
def Aup(ps:Nat->List Int)(n:Nat)(d:Int):Nat:=if 0<=d/\d<n then(ps d.toNat).length else 0
theorem Ayn{q c:Nat}{buf:List EV}(hq:h.get q=some (.cells [.chan c] 176))(hc:h.get c=some (.chan cap buf)):F6 K (.ptr q 0) h=some (I buf.length,h):=by
 simp only[F6,Aa,C8 hq rfl];have:Bba (.chan c) h=some (I buf.length,h):=by
  show(match h.get c with|some (.chan _ buf)=>some (EV.int .i64 (.ofNat (len buf)),h)|_=>none)=_;rw[hc];simp only;rw[Zr];rfl
 rw[this];rfl
section
variable{p:Nat}{q c:Nat->Nat}{g:Gm}(P:Fy h p ql n q c g ps)
include P
theorem Fy.rowAt:Cs h (.slice ql 0 n n true) ql 124 1 n ((List.range n).map fun d=>.ptr (q d) 0):=.inr ⟨P.pos,rfl,P.row,by simp⟩
theorem Fy.list(k:EV->R):Fm (.ptr p 6) h k=k (.slice ql 0 n n true):=by rw[C8 P.Hp rfl];rfl
theorem Fy.Bhp(k:EV->R):Oz 6 (.ptr p 0) h k=k (gV g):=by rw[Db P.Hp rfl];rfl
theorem Fy.Bbk(hd:d<n)(k:EV->R):Fm (.ptr ql (d*1)) h k=k (.ptr (q d) 0):=by
 rw[C8 P.row rfl,bZ,bG,cM hd];rfl
theorem Fy.len(hd:d<n):F6 K (.ptr (q d) 0) h=some (I (ps d).length,h):=by
 rw[Ayn (P.que d hd) (P.chan d hd),bX]
theorem A59(d:Int):Aai K (.ptr p 0) (I d) h=some (I (Aup ps n d:Nat),h):=by
 unfold Aup;simp only[Aai,I,Ac,Aa];by_cases f:d<0
 ·simp only[f,aB,Aa,Ac,Aap]
  rw[aF (by omega)];rfl
 ·simp only[f,aA,Aa,Ac,P.list,Aap]
  by_cases h2:(n:Int)<=d
  ·simp only[h2,aB,Aa]
   rw[aF (by omega)];rfl
  ·simp only[h2,aA,Aa,Ake,P.list]
   have hd:d.toNat<n:=by omega
   have e:d=(d.toNat:Int):=by omega
   rw[e,P.rowAt.ix hd];simp only[Aa,P.Bbk hd];rw[P.len hd,As,aG (by omega)];rfl
end
def Bew(ps:Nat->List Int)(Sx:Int)(b:Int)(d:Nat):Int:=if ¬(d:Int)=Sx/\(b<0\/(ps b.toNat).length<(ps d).length)then d else b
def Ew(ps:Nat->List Int)(Sx:Int)(n:Nat):Int:=(List.range n).foldl (Bew ps Sx) (-1)
theorem Axq(ps:Nat->List Int)(Sx:Int)(n:Nat):Ew ps Sx (n+1)=Bew ps Sx (Ew ps Sx n) n:=by unfold Ew;rw[dA,List.foldl_append];rfl
theorem A4v(ps:Nat->List Int)(Sx:Int):∀n,-1<=Ew ps Sx n/\Ew ps Sx n<(n:Int)/\(Ew ps Sx n = -1\/0<=Ew ps Sx n)
 | 0=>by unfold Ew;simp
 | n+1=>by
  obtain⟨a,b,c⟩:=A4v ps Sx n;rw[Axq];unfold Bew;split<;>omega
def Bf1(n:Nat)(ps:Nat->List Int):Prop:=n<=64/\∀d,d<n->(ps d).length<=4096
theorem Bbb {p:Nat}{q c:Nat->Nat}{g:Gm}(Sx:Int)(hn:n<=64):∀(m i:Nat) (h:Ab),n-i<m->i<=n->HB h->Fy h p ql n q c g ps ->
 Ok (Iy K m (.ptr p 0) (I Sx) (I (Ew ps Sx i)) (.slice ql 0 n n true) (I n) (I i) h) fun v h'=>v=I (Ew ps Sx n)/\Ext h h':=by
 intro m;induction m with
 | zero=>intro i h hm;omega
 | succ m U=>
  intro i h hm W hb P;simp only[Iy,I,Ac,Aa];by_cases B:(i:Int)<n
  ·have y:i<n:=by omega
   simp only[B,aB,Aa,Agu];rw[P.rowAt.ix y,P.Bbk y];obtain⟨b0,b1,b2⟩:=A4v ps Sx i;have next:∀(b:Int) (C:Ab),b=Ew ps Sx (i+1)->Ext h C->Ok (Ph K (Iy K m) (.ptr p 0) (.int .i64 Sx) (.int .i64 b) (.slice ql 0 n n true) (.int .i64 (n:Int)) (.int .i64 (i:Int)) C) fun v h'=>v=I (Ew ps Sx n)/\Ext h h':=by
    rintro _ C rfl F;simp only[Ph,Ac];rw[Cj];exact(U (i+1) C (by omega) (by omega) (F.hb hb) (P.ext fun i o g=>F.at hb g)).mono fun v h' a=>⟨a.1,F.trans a.2⟩
   rw[Axq]at next
   unfold Bew at next
   simp only[Aa,Ac];by_cases f:(i:Int)=Sx
   ·simp only[f,aD,aA,Aa,Ac,Qd,I7,Iv]
    rw[aF (fun x=>x.1 f)]at next
    rw[f]at next
    exact next _ h rfl (Av.refl _)
   ·simp only[f,aN,aB,Aa,Ac,Qd]
    by_cases j:Ew ps Sx i<0
    ·simp only[j,aB,Aa,Ac,I7,Iv]
     rw[aG ⟨f,.inl j⟩]at next
     exact next _ h rfl (Av.refl _)
    ·simp only[j,aA,Aa,Ac]
     refine Ok.bE (P:=fun v h2=>v=I (ps i).length/\Ext h.lift h2) ⟨_,_,(P.ext (h':=h.lift) fun i o g=>by rw[Ci];exact g).len y,rfl,Av.refl _⟩ (fun _ _ p=>p.2) ?_;rintro _ h2 G ⟨rfl,_⟩ _ J;have E:Fy G p ql n q c g ps:=P.ext fun i o g=>J.at hb g
     have hp:p<h.next:=hb _ _ P.Hp
     have hq:ql<h.next:=hb _ _ P.row
     have A:(Ew ps Sx i).toNat<n:=by omega
     simp only[Aa,Aw,Cv hp,E.list];rw[show Ew ps Sx i=((Ew ps Sx i).toNat:Int) by omega,E.rowAt.ix A];simp only[Aa,Aw,Cv hq,E.Bbk A];refine Ok.bE (P:=fun v h2=>v=I (ps (Ew ps Sx i).toNat).length/\Ext G.lift h2) ⟨_,_,(E.ext (h':=G.lift) fun i o g=>by rw[Ci];exact g).len A,rfl,Av.refl _⟩ (fun _ _ p=>p.2) ?_;rintro _ h4 L ⟨rfl,_⟩ _ O;rw[show((Ew ps Sx i).toNat:Int)=Ew ps Sx i by omega];simp only[Ac,I];by_cases hc:((ps (Ew ps Sx i).toNat).length:Int)<(ps i).length
     ·simp only[hc,aB,I7,Iv,Aa,Ac]
      rw[aG ⟨f,.inr (by omega)⟩]at next
      exact next _ L rfl (J.trans O)
     ·simp only[hc,aA,I7,Iv,Aa,Ac]
      rw[aF (fun x=>by rcases x.2 with a|a<;>omega)]at next
      exact next _ L rfl (J.trans O)
  ·have:i=n:=by omega
   subst this;simp only[B,aA,Aa,Agq];exact .ret ⟨rfl,Av.refl _⟩
theorem Axr{p:Nat}{q c:Nat->Nat}{g:Gm}(P:Fy h p ql n q c g ps)(hb:HB h)(hn:n<=64)(hK:1000<K)(Sx:Int):
 Ok (Mh K (.ptr p 0) (I Sx) h) fun v h'=>v=I (Ew ps Sx n)/\Ext h h':=by
 simp only[Mh,Aa,P.list];exact Bbb Sx hn K 0 h (by omega) (by omega) hb P
def Qq(ps:Nat->List Int)(n:Nat):Nat:=((List.range n).map fun d=>(ps d).length).sum
theorem Ky(ps:Nat->List Int)(n:Nat):Qq ps (n+1)=Qq ps n+(ps n).length:=by unfold Qq;rw[dA,cX,List.sum_append];simp
def F7(ps:Nat->List Int)(n:Nat):Int:=min ((Qq ps n:Int)/2) (Qq ps n-Aup ps n (Ew ps (-1) n))
theorem Bfr {p:Nat}{q c:Nat->Nat}{g:Gm}(hs:Bf1 n ps)(hb:HB h)(P:Fy h p ql n q c g ps)(hK:1000<K):∀(m i:Nat),n-i<m->i<=n->Qq ps i<=4096*i ->
 Ok (Oh K m (.ptr p 0) (I (Qq ps i)) (.slice ql 0 n n true) (I n) (I i) h) fun v h'=>v=I (F7 ps n)/\Ext h h':=by
 obtain⟨hn,y⟩:=hs;intro m;induction m with
 | zero=>intro i hm;omega
 | succ m C=>
  intro i hm E A;simp only[Oh,I,Ac,Aa];by_cases j:(i:Int)<n
  ·have f:i<n:=by omega
   have:=y i f;simp only[j,aB,Aa,Ajl];rw[P.rowAt.ix f,P.Bbk f,P.len f,As];simp only[I,Ac,Aj1];rw[Cj,Cj];have e:((Qq ps i:Int)+(ps i).length)=(Qq ps (i+1):Nat):=by rw[Ky];omega
   rw[e];exact C (i+1) (by omega) (by omega) (by rw[Ky];omega)
  ·have:i=n:=by omega
   subst this;simp only[j,aA,Aa,Akm];rw[Bnd (by omega) (by omega) (by omega)];refine(Axr P hb hn hK (-1)).An ?_;rintro _ F ⟨rfl,B⟩;rw[A59 (P.ext fun i o g=>B.at hb g),As];simp only[I,Ac];have hle:Aup ps i (Ew ps (-1) i)<=4096:=by
    unfold Aup;split
    ·exact y _ (by omega)
    ·omega
   rw[Cj,min2,As];exact .ret ⟨rfl,B⟩
theorem A4y{p:Nat}{q c:Nat->Nat}{g:Gm}(P:Fy h p ql n q c g ps)(hb:HB h)(hs:Bf1 n ps)(hK:1000<K):
 Ok (Hd K (.ptr p 0) h) fun v h'=>v=I (F7 ps n)/\Ext h h':=by
 simp only[Hd,Aa,P.list];exact Bfr hs hb P hK K 0 (by obtain⟨a,_⟩:=hs;omega) (by omega) (by unfold Qq;simp)
end
section
noncomputable def Agd(D:Nat)(g:Gm)(p bl n:Nat)(a b u:Int):List EV:=[.ptr D 0]++gL g++Bn++[.ptr p 0,.slice bl 0 n n false,I a,I b,I u]
theorem Wx:Bn.length=256:=by kernel_rfl
section
variable (D:Nat)(g:Gm)(p bl n:Nat)(a b u:Int)
theorem A4p:(Agd D g p bl n a b u).length=268:=by unfold Agd;simp[Wx,gL]
theorem Bhu:(Agd D g p bl n a b u)[0]? = some (.ptr D 0):=rfl
theorem Bj4:Oy (Agd D g p bl n a b u) 1 6=some (gL g):=by kernel_rfl
theorem Bhr:Oy (Agd D g p bl n a b u) 7 256=some Bn:=by kernel_rfl
theorem Bkl:(Agd D g p bl n a b u)[263]? = some (.ptr p 0):=by kernel_rfl
theorem Bpi:(Agd D g p bl n a b u)[264]? = some (.slice bl 0 n n false):=by kernel_rfl
theorem Bui:(Agd D g p bl n a b u)[265]? = some (I a):=by kernel_rfl
theorem Bvd:(Agd D g p bl n a b u)[266]? = some (I b):=by kernel_rfl
theorem Buw:(Agd D g p bl n a b u)[267]? = some (I u):=by kernel_rfl
end
theorem Yr{l:List EV}(f:h.get i=some (.cells l t))(hs:TT.size t=some n)(j:TT.agg t=some true)(y:l.length=n):Ji TT [.c (.ptr i 0) t] h=some (.agg l,h):=by
 have A:K0 h i 0 n=some l:=by
  unfold K0;rw[f];simp only;rw[<-Aly];exact Ai y
 unfold Ji;simp only[A22,hs,A,j]
structure Aff(h:Ab)(m D p bl n:Nat)(g:Gm)(a b u:Int)(bad:Nat->Int):Prop where
 Kk:h.get m=some (.cells (Agd D g p bl n a b u) 111)
 A21:h.get bl=some (.cells ((List.range n).map fun z=>I (bad z)) 3)
section
variable{m p bl:Nat}{g:Gm}{u:Int}{bad:Nat->Int}(M:Aff h m D p bl n g a b u bad)
include M
theorem Aff.Eb(k:EV->R):Fm (.ptr m 0) h k=k (.ptr D 0):=by rw[C8 M.Kk rfl,Bhu];rfl
theorem Aff.Bhp(k:EV->R):Oz 6 (.ptr m 1) h k=k (gV g):=by rw[Db M.Kk rfl,Bj4];rfl
theorem Aff.table(k:EV->R):Oz 256 (.ptr m 7) h k=k Abr:=by rw[Db M.Kk rfl,Bhr];rfl
theorem Aff.Hp(k:EV->R):Fm (.ptr m 263) h k=k (.ptr p 0):=by rw[C8 M.Kk rfl,Bkl];rfl
theorem Aff.Bvo(k:EV->R):Fm (.ptr m 264) h k=k (.slice bl 0 n n false):=by rw[C8 M.Kk rfl,Bpi];rfl
theorem Aff.oa(k:EV->R):Fm (.ptr m 265) h k=k (I a):=by rw[C8 M.Kk rfl,Bui];rfl
theorem Aff.ob(k:EV->R):Fm (.ptr m 266) h k=k (I b):=by rw[C8 M.Kk rfl,Bvd];rfl
theorem Aff.ou(k:EV->R):Fm (.ptr m 267) h k=k (I u):=by rw[C8 M.Kk rfl,Buw];rfl
theorem Aff.ext(e:∀i o,h.get i=some o->h'.get i=some o):Aff h' m D p bl n g a b u bad:=⟨e _ _ M.Kk,e _ _ M.A21⟩
omit M in
theorem Bsi:TT.size 23=some 6/\TT.agg 23=some true:=⟨by kernel_rfl,by kernel_rfl⟩
omit M in
theorem Bvi:TT.size 96=some 256/\TT.agg 96=some true:=⟨by kernel_rfl,by kernel_rfl⟩
end
section
variable{M:Nat}{z q:Nat->Nat}{size:Int}{Zs:Nat->Zn}
theorem Arb(d:Als h D V M zl n z q size op cnt down Lm happened marks Zs):Fo K (.ptr D 0) h=some (.ptr V 0,h):=by simp only[Fo,Aa,C8 d.Eb rfl]
theorem Ay7(d:Oe h V zl n z q size op cnt down Zs):Po K (.ptr V 0) h=some (I n,h):=by simp only[Po,Aa,C8 d.dev rfl,I]
theorem A2f(d:Oe h V zl n z q size op cnt down Zs):Se K (.ptr V 0) h=some (I size,h):=by simp only[Se,Aa,C8 d.dev rfl]
end
theorem Bur(v:EV):∀n,rep [v] n=List.replicate n v
 | 0=>rfl
 | n+1=>by show[v]++rep [v] n=_;rw[Bur v n];rfl
theorem A1s(v:EV)(n:Nat):(List.range n).map (fun _=>v)=List.replicate n v:=by
 rw[List.map_const',eX]
theorem A60 {g:Gm}(hK:1000<K)(hb:HB h){M:Nat}{z q:Nat->Nat}{size:Int}{Zs:Nat->Zn}(dr:Als h D V M zl n z q size op cnt down Lm happened marks Zs):
 Ok (Aks K (.ptr D 0) (gV g) Abr h) fun v h'=>Ext h h'/\HB h'/\if rtB g=true/\g.D*g.Z=n/\g.S=size then
  ∃m p bl ql q c,v=.tuple [.ptr m 0,I 0]/\Aff h' m D p bl n g (-1) (-1) 0 (fun _=>0)/\Fy h' p ql g.D.toNat q c g (fun _=>[])/\(h.next<=m/\h.next<=bl)/\h.next<=p/\h.next<=ql/\∀d,d<g.D.toNat->h.next<=q d/\h.next<=c d else v=.tuple [.E3,I 20]:=by
 have ai:Wy 96 Abr (h.new (.cells (gL g) 23))=fun(k:EV->Ab->R)=>k (.ptr (h.next+1) 0) ((h.new (.cells (gL g) 23)).new (.cells Bn 96)):=rfl
 simp only[Aks,gV,Aa,ai];have g4:((h.new (.cells (gL g) 23)).new (.cells Bn 96)).get h.next=some (.cells (gL g) 23):=by rw[Az _ (aL _)];exact Ad _ _
 have g5:((h.new (.cells (gL g) 23)).new (.cells Bn 96)).get (h.next+1)=some (.cells Bn 96):=Ad _ _;have F:Ext h ((h.new (.cells (gL g) 23)).new (.cells Bn 96)):=(Av.new _ _).Ds _;have n1:((h.new (.cells (gL g) 23)).new (.cells Bn 96)).next=h.next+2:=rfl
 generalize (h.new (.cells (gL g) 23)).new (.cells Bn 96)=h1 at g4 g5 F n1⊢;have E:=F.hb hb;simp only[Db g4 rfl,Ai (show(gL g).length=6 from rfl),Aa];cases hr:rtB g with
 | false=>
  refine(Bb1 hr h1).An ?_;rintro _ h2 ⟨rfl,C⟩;simp only[Aa,I,Ac,show ¬((20:Int)=0) by decide,aN,aB,Ae2,U3];exact .ret ⟨F.trans C,C.hb E,rfl⟩
 | true=>
  have s:=Nw hr;have:=s.d0;have:=s.d1;have:=s.z0;have:=s.z1;obtain⟨m0,m1⟩:=Va (a:=g.D) (b:=g.Z) (A:=8) (B:=64) (by omega) (by omega) (by omega) (by omega);refine(Bbe hr hK E).An ?_;rintro _ h2 ⟨p,ql,qq,c,rfl,C,j,P,nw⟩;have k2:∀i o,h.get i=some o->h2.get i=some o:=fun i o g=>C.at E (F.at hb g)
  have l4:h.next<h2.next:=by have:=C.next;omega
  have l5:h.next+1<h2.next:=by have:=C.next;omega
  have U:=C.at E g4;have ao:=C.at E g5;simp only[Aa,I,Ac,aD,aA];refine Ok.bE (P:=fun v h3=>v=.ptr V 0/\Ext h2.lift h3) ⟨_,_,Arb ((dr.ext k2).ext fun i o g=>by rw[Ci];exact g),rfl,Av.refl _⟩ (fun _ _ p=>p.2) ?_;rintro _ _ h3 ⟨rfl,_⟩ _ x3;have W:=x3.hb j;have k3:∀i o,h.get i=some o->h3.get i=some o:=fun i o g=>x3.at j (k2 i o g)
  refine Ok.bE (P:=fun v h4=>v=I n/\Ext h3.lift h4) ⟨_,_,Ay7 ((dr.dev.ext k3).ext fun i o g=>by rw[Ci];exact g),rfl,Av.refl _⟩ (fun _ _ p=>p.2) ?_;rintro _ _ h4 ⟨rfl,_⟩ _ x4;have X:=x4.hb W;have k4:∀i o,h.get i=some o->h4.get i=some o:=fun i o g=>x4.at W (k3 i o g)
  have Y:Ext h2 h4:=x3.trans x4;have aw:=Y.at j U;simp only[Aa,Aw,Cv l4,Db aw rfl,Ai (show(gL g).length=6 from rfl)];refine Ok.bE (P:=fun v O=>v=I (g.D*g.Z)/\Ext h4.lift O) ⟨_,_,Lo s _,rfl,Av.new _ _⟩ (fun _ _ p=>p.2) ?_;rintro _ _ O ⟨rfl,_⟩ _ x5;have aa:=x5.hb X;have k5:∀i o,h.get i=some o->O.get i=some o:=fun i o g=>x5.at X (k4 i o g)
  simp only[I,Ac,Ae2];have ab:Ext h2 O:=Y.trans x5;by_cases hn:(n:Int)=g.D*g.Z
  ·simp only[hn,aD,aA,Aa,Ac]
   refine Ok.bE (P:=fun v h6=>v=.ptr V 0/\Ext O.lift h6) ⟨_,_,Arb ((dr.ext k5).ext fun i o g=>by rw[Ci];exact g),rfl,Av.refl _⟩ (fun _ _ p=>p.2) ?_;rintro _ _ h6 ⟨rfl,_⟩ _ x6;have az:=x6.hb aa;have k6:∀i o,h.get i=some o->h6.get i=some o:=fun i o g=>x6.at aa (k5 i o g)
   refine Ok.bE (P:=fun v J=>v=I size/\Ext h6.lift J) ⟨_,_,A2f ((dr.dev.ext k6).ext fun i o g=>by rw[Ci];exact g),rfl,Av.refl _⟩ (fun _ _ p=>p.2) ?_;rintro _ _ J ⟨rfl,_⟩ _ x7;have a0:=x7.hb az;have y:Ext h2 J:=ab.trans (x6.trans x7);have ad:=y.at j U;simp only[Aa,Aw,Cv l4,C8 ad rfl,gL,I,Ac];by_cases hs:size=g.S
   ·subst hs
    simp only[aD,aA,U3,Awi,Aa];have a1:=y.at j ao;have a2:h.next<J.next:=aK l4 y.next
    have a3:h.next+1<J.next:=aK l5 y.next
    simp only[Aa,Aw,Cv a2,Cv a3,Db ad rfl,Db a1 rfl,Ai (show(gL g).length=6 from rfl),Ai Wx];refine Ok.bE (P:=fun v f=>v=I (g.D*g.Z)/\Ext J.lift f) ⟨_,_,Lo s _,rfl,Av.new _ _⟩ (fun _ _ p=>p.2) ?_;rintro _ _ f ⟨rfl,_⟩ _ x8;have bw:=x8.hb a0;have L:Ext h2 f:=y.trans x8;simp only[Aa,Aw,I];rw[<-hn];have a6:Mp [.int .i64 0] 3 (.int .i64 (n:Int)) (.int .i64 (n:Int)) f=some (.slice f.next 0 n n false,f.new (.cells (rep [.int .i64 0] n) 3)):=by
     show Bf (Nat.ble n n) (Bf (Nat.ble n 65536) _ none) none=_;rw[aS (aE n),Ak,aS (by omega),Ak]
    rw[a6,As,Ay (l:=Agd D g p f.next n (-1) (-1) 0) (by kernel_rfl)];simp only[Aa,Aw];have ae:Ext f ((f.new (.cells (rep [.int .i64 0] n) 3)).new (.cells (Agd D g p f.next n (-1) (-1) 0) 111)):=(Av.new _ _).Ds _;have G:Ext h ((f.new (.cells (rep [.int .i64 0] n) 3)).new (.cells (Agd D g p f.next n (-1) (-1) 0) 111)):=(F.trans C).trans (L.trans ae);refine .ret ⟨G,G.hb hb,?_⟩;rw[aG (by first|exact⟨rfl,hn.symm,rfl⟩|simp[hn]|simp)];refine⟨f.next+1,p,f.next,ql,qq,c,rfl,⟨Ad _ _,?_⟩,P.ext fun i o g=>Ext.at (L.trans ae) j g,?_⟩
    ·rw[Az _ (aL _),Ad,Bur,A1s]
    ·have t1:=F.next
     have t2:=C.next
     have t3:=L.next
     exact⟨⟨by omega,by omega⟩,by omega,by omega,fun d hd=>by have:=nw.2.2 d hd;omega⟩
   ·have af:¬size=g.S:=hs
    simp only[af,aN,aB,U3,Aa];have G:Ext h J:=(F.trans C).trans y;refine .ret ⟨G,G.hb hb,?_⟩;rw[aF (fun x=>af x.2.2.symm)]
  ·simp only[hn,aN,aB,Aa,Ac,U3]
   have G:Ext h O:=(F.trans C).trans ab;refine .ret ⟨G,G.hb hb,?_⟩;rw[aF (fun x=>hn x.2.1.symm)]
end
section
section
variable{m p bl:Nat}{g:Gm}{u:Int}{bad:Nat->Int}(M:Aff h m D p bl n g a b u bad)
include M
theorem Yj:Ce K (.ptr m 0) h=some (.ptr p 0,h):=by simp only[Ce,Aa,M.Hp]
theorem Arm:Cp K (.ptr m 0) h=some (.ptr D 0,h):=by simp only[Cp,Aa,M.Eb]
theorem A4w:K9 K (.ptr m 0) h=some (.tuple [I a,I b,I u],h):=by simp only[K9,Aa,M.oa,M.ob,M.ou]
theorem A39(hb:HB h):Ok (Ch K (.ptr m 0) h) fun v h'=>v=gV g/\Ext h h':=by
 simp only[Ch,Aa];have f:Aff (h.new (.cells [.int .i64 0,.int .i64 0,.int .i64 0,.int .i64 0,.int .i64 0,.int .i64 0] 23)) m D p bl n g a b u bad:=M.ext fun i o g=>Ext.at (Av.new h _) hb g
 rw[f.Bhp];refine Ok.st (gL g) (Ad _ _) rfl rfl rfl ?_;rw[Yr (Af _ _ _) Bsi.1 Bsi.2 rfl];exact .ret ⟨rfl,(Av.new h _:Ext _ _).Ar (.inr (aE _)) (aL _) _⟩
theorem A23(hb:HB h):Ok (Nh K (.ptr m 0) h) fun v h'=>v=Abr/\Ext h h':=by
 simp only[Nh,Aa];have f:Aff (h.new (.cells (List.replicate 256 (.int .u32 0)) 96)) m D p bl n g a b u bad:=M.ext fun i o g=>Ext.at (Av.new h _) hb g
 rw[f.table];refine Ok.st Bn (Ad _ _) rfl (by rw[show EV.cells Abr=Bn from rfl,Bc,Wx]) (by rw[show EV.cells Abr=Bn from rfl];exact Bm (by rw[Wx];simp)) ?_;rw[Yr (Af _ _ _) Bvi.1 Bvi.2 Wx];exact .ret ⟨rfl,(Av.new h _:Ext _ _).Ar (.inr (aE _)) (aL _) _⟩
end
end
section
section
variable{q c:Nat}(hq:h.get q=some (.cells [.chan c] 176))(hc:h.get c=some (.chan cap (xs.map I)))
include hq hc
theorem A8m(x:Int)(f:xs.length<cap):Ic K (.ptr q 0) (I x) h=some (I 0,h.put c (.chan cap ((xs++[x]).map I))):=by
 have hs:A43 (.chan c) (I x) h=some (.tuple [.int .i64 0,.bool false],h.put c (.chan cap ((xs++[x]).map I))):=by
  unfold A43;simp only[hc,Zr,bX];rw[aS f,Ak,cX];rfl
 simp only[Ic,Aa,C8 hq rfl,hs,Ac,aB]
theorem Bux(x:Int)(f:cap<=xs.length):Ic K (.ptr q 0) (I x) h=some (I 17,h):=by
 have hs:A43 (.chan c) (I x) h=some (.tuple [.int .i64 (-1),.bool false],h):=by
  unfold A43;simp only[hc,Zr,bX];rw[show Nat.ble (Nat.succ xs.length) cap=false from by
   cases hb:Nat.ble (Nat.succ xs.length) cap with
   | false=>rfl
   | true=>have:=bI hb;omega,Bo]
 simp only[Ic,Aa,C8 hq rfl,hs,Ac,show ¬((-1:Int)=0) by decide,aA]
theorem take_cons{r:List Int}(f:xs=x::r):Hi K (.ptr q 0) h=some (.tuple [I x,I 0],h.put c (.chan cap (r.map I))):=by
 subst f;have hs:A4z (.int .i64 0) (.chan c) h=some (.tuple [.int .i64 0,.bool true,I x],h.put c (.chan cap (r.map I))):=by
  unfold A4z;simp only[hc,dQ]
 simp only[Hi,Aa,C8 hq rfl,hs,Ac,aB]
theorem take_nil(f:xs = []):Hi K (.ptr q 0) h=some (.tuple [I 0,I 15],h):=by
 subst f;have hs:A4z (.int .i64 0) (.chan c) h=some (.tuple [.int .i64 (-1),.bool false,.int .i64 0],h):=by
  unfold A4z;simp only[hc,List.map_nil]
 simp only[Hi,Aa,C8 hq rfl,hs,Ac,show ¬((-1:Int)=0) by decide,aA]
end
structure Listed(h0 h:Ab)(v:EV)(c cap:Nat)(xs:List Int)(q':Nat):Prop where
 row:Cs h v q' 3 1 xs.length (xs.map I)
 new:0<xs.length->h0.next<=q'
 chan:h.get c=some (.chan cap (xs.map I))
 chg:Av (fun i=>i=c) h0 h
 hb:HB h
theorem Bme{q c:Nat}(A:h0.get q=some (.cells [.chan c] 176))(f:∃b,h0.get c=some (.chan cap b))(J:xs.length<=cap)(L:cap<=4096)(hb0:HB h0):∀(m j:Nat) (h:Ab) (s:EV) (q':Nat),xs.length-j<m->j<=xs.length ->
 Cs h s q' 3 1 xs.length (xs.map I)->(0<xs.length->h0.next<=q')->h.get c=some (.chan cap ((xs.take j).map I))->Av (fun i=>i=c) h0 h->HB h ->
 Ok (Ke K m (.ptr q 0) s s (I xs.length) (I j) h) fun v h'=>∃q',Listed h0 h' v c cap xs q':=by
 obtain⟨b0,f⟩:=f;have F:q≠c:=Bb A f (by simp);have lc:=hb0 _ _ f;intro m;induction m with
 | zero=>intro j h s q' hm;omega
 | succ m O=>
  intro j h s q' hm hj row new hc x hb;simp only[Ke,I,Ac,Aa];by_cases B:(j:Int)<xs.length
  ·have y:j<xs.length:=by omega
   have hq:h.get q=some (.cells [.chan c] 176):=Av.at x hb0 A F;have C:=row.block (by omega);simp only[B,aB,Aa,Aii];rw[row.ix y,C8 C rfl,bZ,bG,aC y,eA,Ia,A8m hq hc xs[j] (by rw[cD];omega),As];simp only[Ahh,Ac];rw[Cj];have e:xs.take j++[xs[j]]=xs.take (j+1):=(dW y).symm;rw[e];have E:c<h.next:=aK lc x.next
   have G:q'≠c:=Bb C hc (by simp);exact O (j+1) _ s q' (by omega) (by omega) (row.frame fun _=>Ag _ (cV G)) new (Af _ _ _) (x.Ar (.inl rfl) E _) (hb.put E _)
  ·have:j=xs.length:=by omega
   subst this;simp only[B,aA,Aa,Zj];rw[cN]at hc;exact .ret ⟨q',row,new,hc,x,hb⟩
theorem Bka{q c:Nat}(B:h0.get q=some (.cells [.chan c] 176))(f:∃b,h0.get c=some (.chan cap b))(C:xs.length<=cap)(L:cap<=4096)(hb0:HB h0)(hK:5000<K):∀(m j:Nat) (h:Ab) (s:EV) (q':Nat),xs.length-j<m->j<=xs.length ->
 Cs h s q' 3 1 j ((xs.take j).map I)->(0<j->h0.next<=q')->h.get c=some (.chan cap ((xs.drop j).map I))->Av (fun i=>i=c) h0 h->HB h ->
 Ok (J7 K m (.ptr q 0) s (I xs.length) (I j) h) fun v h'=>∃q',Listed h0 h' v c cap xs q':=by
 have E:=f;obtain⟨b0,f⟩:=f;have O:q≠c:=Bb B f (by simp);have lc:=hb0 _ _ f;intro m;induction m with
 | zero=>intro j h s q' hm;omega
 | succ m Y=>
  intro j h s q' hm hj row new hc x hb;simp only[J7,I,Ac,Aa];by_cases F:(j:Int)<xs.length
  ·have G:j<xs.length:=by omega
   have hq:h.get q=some (.cells [.chan c] 176):=Av.at x hb0 B O;have e:xs.drop j=xs[j]::xs.drop (j+1):=dE G;have y:c<h.next:=aK lc x.next
   simp only[F,aB,Aa,Ahv];rw[take_cons hq hc e];simp only[Aa,I,Ac,aB];have J:Cs (h.put c (.chan cap ((xs.drop (j+1)).map I))) s q' 3 1 j ((xs.take j).map I):=row.frame fun U=>Ag _ (cV (Bb (row.block U) hc (by simp)))
   refine Qe (z:=[.int .i64 0]) J (hb.put y _) rfl rfl rfl (by omega) (by omega) ?_;intro h2 A n2 c2;have W:Av (fun i=>i=c) h0 (h.put c (.chan cap ((xs.drop (j+1)).map I))):=x.Ar (.inl rfl) y _;have x3:Av (fun i=>i=c) h0 h2:=W.then c2 fun i hi U=>by have:=new hi.1;omega
   simp only[Ahk,Ac];rw[Cj];have e2:(xs.take j).map I++EV.cells (.int .i64 xs[j])=(xs.take (j+1)).map I:=by
    rw[dW G,cX];rfl
   rw[e2]at A;refine Y (j+1) _ _ _ (by omega) (by omega) A (fun _=>by have:=W.next;omega) ?_ x3 (c2.hb (hb.put y _));rw[c2.get _ (by rw[Ab.Si];exact y) (fun X=>by
    have:=row.block X.1;exact Bb this hc (by simp) X.2.symm)]
   exact Af _ _ _
  ·have:j=xs.length:=by omega
   subst this;rw[cN]at row;simp only[F,aA,Aa,Zl];rw[row.F3];rw[List.drop_length]at hc;exact Bme B E C L hb0 K 0 h s q' (by omega) (by omega) row new hc x hb
theorem A6o{q c:Nat}(j:h0.get q=some (.cells [.chan c] 176))(f:h0.get c=some (.chan cap (xs.map I)))(y:xs.length<=cap)(A:cap<=4096)(hb0:HB h0)(hK:5000<K):
 Ok (Ys K (.ptr q 0) h0) fun v h'=>∃q',Listed h0 h' v c cap xs q':=by
 simp only[Ys,dr];rw[Ayn j f,As,bX];exact Bka j ⟨_,f⟩ y A hb0 hK K 0 h0 .Ao 0 (by omega) (by omega) (.nil _ _ _ _) (fun x=>absurd x (bS _)) f (Av.refl _) hb0
theorem Listed.same{c:Nat}{q':Nat}(l:Listed h0 h v c cap xs q')(hc:h0.get c=some (.chan cap (xs.map I))):∀i,i<h0.next->h.get i=h0.get i:=by
 intro i f;by_cases e:i=c
 ·subst e;rw[l.chan,hc]
 ·exact l.chg.get i f e
end
section
theorem Bv8:(E4 TT 29 0).2.1 = [9,10]:=by kernel_rfl
theorem Bv5:(E4 TT 113 0).2.1 = [19,20]:=by kernel_rfl
section
variable (H:Bj disp)
include H
theorem Blm(he:1<=e){z i:Int}(E:h.get l0=some (Au TT 29 14 0 tm .ready none d0))(t3:tmp tm 3=.ptr b3 0)(t4:tmp tm 4=.ptr b4 0)(O:h.get b3=some (.cells [I z] 3))(g4:h.get b4=some (.cells [.bool false] 4))(hb:HB h):
 ∃h',Ae TT disp K (e+1) true l0 [I i,I x] h=some (.bool (decide (¬x=z)),h')/\h'.get l0=some (Au TT 29 14 0 tm (if x=z then .done else .ready) (if x=z then some .ret else none) d0)/\h'.get b4=some (.cells [.bool (decide (x=z))] 4)/\Av (fun j=>j=l0\/j=b4) h h'/\HB h':=by
 have y:=E;unfold Au at y;rw[Bv8]at y;rw[Ata H he tm h (I i) (I x) y,t3,t4];have F:=hb _ _ E;have W:=hb _ _ g4;have J:l0≠b3:=Bb E O (by simp[Au]);have f:l0≠b4:=Bb E g4 (by simp[Au]);simp only[Aon,Abi E,Aga,dr];have G:(h.put l0 (Au TT 29 14 0 tm .busy none d0)).get b3=some (.cells [I z] 3):=by rw[Ag _ J];exact O
 have A:(h.put l0 (Au TT 29 14 0 tm .busy none d0)).get b4=some (.cells [.bool false] 4):=by rw[Ag _ f];exact g4
 have B:(h.put l0 (Au TT 29 14 0 tm .busy none d0)).get l0=some (Au TT 29 14 0 tm .busy none d0):=Af _ _ _;have L:Av (fun j=>j=l0\/j=b4) h (h.put l0 (Au TT 29 14 0 tm .busy none d0)):=(Av.refl h).Ar (.inl (.inl rfl)) F _;have C:HB (h.put l0 (Au TT 29 14 0 tm .busy none d0)):=hb.put F _;have X:(h.put l0 (Au TT 29 14 0 tm .busy none d0)).next=h.next:=rfl
 generalize h.put l0 (Au TT 29 14 0 tm .busy none d0)=Y at G A B L C X⊢;simp only[C8 G rfl,Aa,I,Ac];by_cases U:x=z
 ·simp only[U,aB,Aa,aD,aA,bM]
  rw[An9 (o:=0) (n:=1) (v:=.bool true) (l':=[.bool true]) A rfl rfl rfl,Tm (by rw[Ag _ (cV f)];exact B)];exact⟨_,rfl,Af _ _ _,by rw[Ag _ f];exact Af _ _ _,(L.Ar (.inl (.inr rfl)) (by omega) _).Ar (.inl (.inl rfl)) (by rw[Ab.Si];omega) _,(C.put (by omega) _).put (by rw[Ab.Si];omega) _⟩
 ·simp only[U,aA,Aa,aN,aB,bD]
  rw[Tm B];exact⟨_,rfl,Af _ _ _,by rw[Ag _ f];exact A,L.Ar (.inl (.inl rfl)) (by omega) _,C.put (by omega) _⟩
theorem Bma(he:2<=e){l1 d1 b5:Nat}{z i dd:Int}(X:h.get l0=some (Au TT 29 14 0 tm .ready none d0))(t3:tmp tm 3=.ptr b3 0)(t4:tmp tm 4=.ptr b4 0)(g3:h.get b3=some (.cells [I z] 3))(g4:h.get b4=some (.cells [.bool false] 4))
 (f:h.get l1=some (Au TT 113 27 0 tm1 .ready none d1)) (u2:tmp tm1 2=.ptr b2 0) (u3:tmp tm1 3=.ptr b5 0) (g2:h.get b2=some (.cells [.yld l0] 153)) (g5:h.get b5=some (.cells [I dd] 3)) (hb:HB h) :
 ∃h',Ae TT disp K (e+1) true l1 [I i,I x] h=some (.bool (decide (¬x=z)),h')/\h'.get l0=some (Au TT 29 14 0 tm (if x=z then .done else .ready) (if x=z then some .ret else none) d0)/\h'.get l1=some (Au TT 113 27 0 tm1 (if x=z then .done else .ready) (if x=z then some .ret else none) d1) /\
  h'.get b4=some (.cells [.bool (decide (x=z))] 4)/\Av (fun j=>j=l0\/j=b4\/j=l1) h h'/\HB h':=by
 obtain⟨e,rfl⟩:∃k,e=k+1:=⟨e-1,by omega⟩;have C:=f;unfold Au at C;rw[Bv5]at C;rw[Ap4 H (by omega) tm1 h (I i) (I x) C,u2,u3];have J:=hb _ _ f;have E:l1≠l0:=Bb f X (by simp[Au]);have A:∀b o,h.get b=some o->(∀st p,o≠Au TT 113 27 0 tm1 st p d1)->(h.put l1 (Au TT 113 27 0 tm1 .busy none d1)).get b=some o:=fun b o Y hn=>by
  rw[Ag _ (Bb f Y (fun x=>hn _ _ x.symm))];exact Y
 simp only[Ajw,Abi f,Adf,dr];have q0:=A _ _ X (by intros;simp[Au]);have q2:=A _ _ g2 (by intros;simp[Au]);have q3:=A _ _ g3 (by intros;simp[Au]);have O:=A _ _ g4 (by intros;simp[Au]);have q5:=A _ _ g5 (by intros;simp[Au]);have U:(h.put l1 (Au TT 113 27 0 tm1 .busy none d1)).get l1=some (Au TT 113 27 0 tm1 .busy none d1):=Af _ _ _;have x1:Av (fun j=>j=l0\/j=b4\/j=l1) h (h.put l1 (Au TT 113 27 0 tm1 .busy none d1)):=(Av.refl h).Ar (.inl (.inr (.inr rfl))) J _;have F:HB (h.put l1 (Au TT 113 27 0 tm1 .busy none d1)):=hb.put J _;have n1:(h.put l1 (Au TT 113 27 0 tm1 .busy none d1)).next=h.next:=rfl
 generalize h.put l1 (Au TT 113 27 0 tm1 .busy none d1)=h1 at q0 U q2 q3 O q5 x1 F n1⊢;simp only[C8 q2 rfl,C8 q5 rfl,Aa];have hc:Xq (Ae TT disp K (e+1) false) (Ae TT disp K (e+1) true) (.yld l0) [I dd,I x] h1=Ae TT disp K (e+1) true l0 [I dd,I x] h1:=rfl;rw[hc];obtain⟨h2,r1,L,G,W,r5⟩:=Blm (K:=K) H (e:=e) (by omega) (i:=dd) (x:=x) q0 t3 t4 q3 O F;rw[r1,As];have B:h2.get l1=some (Au TT 113 27 0 tm1 .busy none d1):=Av.at W F U (fun y=>by
  rcases y with y|y
  ·exact E y
  ·exact Bb U O (by simp[Au]) y)
 have n2:=W.next
 have x2:Av (fun j=>j=l0\/j=b4\/j=l1) h h2:=x1.trans (W.mono fun j hj=>hj.elim .inl (fun y=>.inr (.inl y)));by_cases hx:x=z
 ·simp only[hx,aD,aA,aB,bM]at L G⊢
  simp only[Aa];rw[Tm B];refine⟨_,rfl,?_,Af _ _ _,?_,x2.Ar (.inl (.inr (.inr rfl))) (by omega) _,r5.put (by omega) _⟩
  ·rw[Ag _ E];exact L
  ·rw[Ag _ (Bb B G (by simp[Au]))];exact G
 ·simp only[hx,aN,aA,aB,bD]at L G⊢
  simp only[Aa];rw[Tm B];refine⟨_,rfl,?_,Af _ _ _,?_,x2.Ar (.inl (.inr (.inr rfl))) (by omega) _,r5.put (by omega) _⟩
  ·rw[Ag _ E];exact L
  ·rw[Ag _ (Bb B G (by simp[Au]))];exact G
end
end
section
structure Bha(h:Ab)(l0 d0:Nat)(tm:Ax)(b3 b4:Nat)(z:Int)(b2:Nat)(found:Bool):Prop where
 lp:h.get l0=some (Au TT 29 14 0 tm (if found then .done else .ready) (if found then some .ret else none) d0)
 c3:h.get b3=some (.cells [I z] 3)
 c4:h.get b4=some (.cells [.bool found] 4)
 c2:h.get b2=some (.cells [.yld l0] 153)
 hb:HB h
structure Bpp(tm:Ax)(b3 b4:Nat):Prop where
 t3:tmp tm 3=.ptr b3 0
 t4:tmp tm 4=.ptr b4 0
section
variable (H:Bj disp){z:Int}(T0:Bpp tm b3 b4){l1 d1:Nat}{b5:Nat}{dd:Int}(u2:tmp tm1 2=.ptr b2 0)(u3:tmp tm1 3=.ptr b5 0)
include H T0 u2 u3
theorem Bkx(he:3<=e)(hn:xs.length<=4096):∀(m i:Nat) (h:Ab) (s:EV) (q':Nat),xs.length-i<m->i<=xs.length->Bha h l0 d0 tm b3 b4 z b2 false->h.get l1=some (Au TT 113 27 0 tm1 .ready none d1)->h.get b5=some (.cells [I dd] 3) ->
 Cs h s q' 3 1 xs.length (xs.map I)->(xs.take i).contains z=false ->
 Ok (Lx (Ae TT disp K e false) (Ae TT disp K e true) K m (.yld l1) s (I xs.length) (I i) h) fun v h'=>v=.tuple []/\Bha h' l0 d0 tm b3 b4 z b2 (xs.contains z)/\h'.get l1=some (Au TT 113 27 0 tm1 (if xs.contains z then .done else .ready) (if xs.contains z then some .ret else none) d1)/\Av (fun j=>j=l0\/j=b4\/j=l1) h h':=by
 intro m;induction m with
 | zero=>intro i h s q' hm;omega
 | succ m ih=>
  intro i h s q' hm hi L Y g5 row f;simp only[Lx,I,Ac,Aa];by_cases G:(i:Int)<xs.length
  ·have A:i<xs.length:=by omega
   have B:=row.block (by omega);simp only[G,aB,Aa,Af1];rw[row.ix A,C8 B rfl,bZ,bG,aC A,eA,Ia];obtain⟨e,rfl⟩:∃k,e=k+1:=⟨e-1,by omega⟩;have hc:Xq (Ae TT disp K (e+1) false) (Ae TT disp K (e+1) true) (.yld l1) [I i,I xs[i]] h=Ae TT disp K (e+1) true l1 [I i,I xs[i]] h:=rfl;obtain⟨h2,r1,U,W,X,r5,r6⟩:=Bma (K:=K) H (e:=e) (by omega) (i:=i) (x:=xs[i]) L.lp T0.t3 T0.t4 L.c3 L.c4 Y u2 u3 L.c2 g5 L.hb;have ab:∀k:EV->Ab->R,An (Xq (Ae TT disp K (e+1) false) (Ae TT disp K (e+1) true) (.yld l1) [.int .i64 (i:Int),I xs[i]] h) k=k (.bool (decide (¬xs[i]=z))) h2:=fun k=>by
    have:Xq (Ae TT disp K (e+1) false) (Ae TT disp K (e+1) true) (.yld l1) [.int .i64 (i:Int),I xs[i]] h=some (.bool (decide (¬xs[i]=z)),h2):=hc.trans r1;rw[this,As]
   rw[ab];have Gx:∀b o,h.get b=some o->(∀st p,o≠Au TT 29 14 0 tm st p d0)->(∀st p,o≠Au TT 113 27 0 tm1 st p d1)->(∀v,o≠.cells [v] 4)->h2.get b=some o:=fun b o C n0 n1 n4=>Av.at r5 L.hb C fun y=>by
    rcases y with rfl|rfl|rfl
    ·rw[L.lp]at C;cases C;exact n0 _ _ rfl
    ·rw[L.c4]at C;cases C;exact n4 _ rfl
    ·rw[Y]at C;cases C;exact n1 _ _ rfl
   have k3:=Gx _ _ L.c3 (by intros;simp[Au]) (by intros;simp[Au]) (by intros;simp);have k2:=Gx _ _ L.c2 (by intros;simp[Au]) (by intros;simp[Au]) (by intros;simp);have k5:=Gx _ _ g5 (by intros;simp[Au]) (by intros;simp[Au]) (by intros;simp);by_cases F:xs[i]=z
   ·have J:xs.contains z=true:=by
     rw[List.contains_iff_mem,<-F];exact av A
    simp only[F,bM,aB]at U W X;simp only[F,aD,aA,Aa];exact .ret ⟨rfl,by rw[J];exact⟨U,k3,X,k2,r6⟩,by rw[J];exact W,r5⟩
   ·simp only[F,bD,aA]at U W X
    simp only[F,aN,aB,Aa,Afn,Ac];rw[Cj];have E:Cs h2 s q' 3 1 xs.length (xs.map I):=row.frame fun _=>by
     rw[Gx _ _ B (by intros;simp[Au]) (by intros;simp[Au]) (by intros;simp),B]
    have O:(xs.take (i+1)).contains z=false:=by
     rw[dW A];simp only[List.contains_eq_mem,bO,aO,cY]at f⊢;intro y;rcases y with y|y
     ·exact f y
     ·exact F y.symm
    refine(ih (i+1) h2 s q' (by omega) (by omega) ⟨U,k3,X,k2,r6⟩ W k5 E O).mono ?_;rintro v h' ⟨a1,a2,a3,a4⟩;exact⟨a1,a2,a3,r5.trans a4⟩
  ·have:i=xs.length:=by omega
   subst this;simp only[G,aA,Aa];rw[cN]at f;exact .ret ⟨rfl,by rw[f];exact L,by rw[f];exact Y,Av.refl _⟩
theorem Br3(he:3<=e)(hK:5000<K){F q c:Nat}(G:h.get F=some (.cells [.ptr q 0] 124))(hq:h.get q=some (.cells [.chan c] 176))(hc:h.get c=some (.chan cap (xs.map I)))(B:xs.length<=cap)(C:cap<=4096)
 (L:Bha h l0 d0 tm b3 b4 z b2 false) (J:h.get l1=some (Au TT 113 27 0 tm1 .ready none d1)) (g5:h.get b5=some (.cells [I dd] 3)) :
 Ok (Ae TT disp K (e+1) false 145 [.yld l1,.ptr F 0] h) fun v h'=>Bha h' l0 d0 tm b3 b4 z b2 (xs.contains z)/\h'.get l1=some (Au TT 113 27 0 tm1 (if xs.contains z then .done else .ready) (if xs.contains z then some .ret else none) d1) /\
  (∀i,i<h.next->¬(i=l0\/i=b4\/i=l1)->h'.get i=h.get i)/\Av (fun j=>j=c\/j=l0\/j=b4\/j=l1) h h':=by
 rw[Ar3 H (by omega)];simp only[Amc,C8 G rfl,Aa];refine(A6o hq hc B C L.hb hK).An ?_;rintro s E ⟨q',y⟩;rw[y.row.F3];have same:=y.same hc;have f:∀i o,h.get i=some o->E.get i=some o:=fun i o g=>by rw[same i (L.hb _ _ g)];exact g
 have O:Bha E l0 d0 tm b3 b4 z b2 false:=⟨f _ _ L.lp,f _ _ L.c3,f _ _ L.c4,f _ _ L.c2,y.hb⟩;refine(Bkx (K:=K) H T0 u2 u3 he (by omega) K 0 E s q' (by omega) (by omega) O (f _ _ J) (f _ _ g5) y.row (by simp)).mono ?_;rintro v h' ⟨_,U,W,a4⟩;refine⟨U,W,fun i A hn=>by rw[a4.get i (aK A y.chg.next) hn,same i A],?_⟩;exact(y.chg.mono fun i A=>.inl A).trans (a4.mono fun i A=>.inr A)
end
end
section
def hasB(ps:Nat->List Int)(n:Nat)(z:Int):Bool:=(List.range n).any fun d=>(ps d).contains z
theorem Blr(ps:Nat->List Int)(n:Nat)(z:Int):hasB ps (n+1) z=(hasB ps n z||(ps n).contains z):=by
 unfold hasB;rw[dA,List.any_append];simp
theorem J9{z:Int}:hasB ps n z=true↔∃d,d<n/\z∈ps d:=by
 unfold hasB;simp
theorem Bsu{z:Int}(hd:d<n)(h:(ps d).contains z=true):hasB ps n z=true:=J9.2 ⟨d,hd,List.contains_iff_mem.1 h⟩
structure Mid(h0 h:Ab)(C:Nat->Prop)(l0 d0:Nat)(tm:Ax)(b3 b4:Nat)(z:Int)(b2:Nat)(found:Bool):Prop where
 kp:Kp C h0 h
 look:Bha h l0 d0 tm b3 b4 z b2 found
 cd:h.get d0=some (.deferred true)
 n0:h0.next<=l0
 n4:h0.next<=b4
 nd:h0.next<=d0
section
variable (H:Bj disp){p:Nat}{q c:Nat->Nat}{g:Gm}(P:Fy h0 p ql n q c g ps)(hb0:HB h0)(hps:∀d,d<n->(ps d).length<=g.Z.toNat)(hZ:g.Z<=4096)(hn:n<=64)
variable{z:Int}(T0:Bpp tm b3 b4)
include H P hb0 hps hZ hn T0
theorem Bpj(he:4<=e)(hK:5000<K):∀(m i:Nat) (h:Ab) (t1:Ax) (ds:List Nat),n-i<m->i<=n->Mid h0 h (fun x=>∃d,d<n/\x=c d) l0 d0 tm b3 b4 z b2 false->tmp t1 2=.ptr b2 0 ->
 ds.Nodup->(∀d∈ds,h.get d=some (.deferred true)/\h0.next<=d/\d≠d0)->hasB ps i z=false ->
 Ok (Ol (Ae TT disp K e false) (Ae TT disp K e true) K m t1 (.slice ql 0 n n true) (I n) (I i) h ds) fun v h'=>Mid h0 h' (fun x=>∃d,d<n/\x=c d) l0 d0 tm b3 b4 z b2 (hasB ps n z):=by
 intro m;induction m with
 | zero=>intro i h t1 ds hm;omega
 | succ m ih=>
  intro i h t1 ds hm hi M u2 af aa ag;have fin:∀(h2:Ab) (dl:List Nat) (found:Bool),found=hasB ps n z->Mid h0 h2 (fun x=>∃d,d<n/\x=c d) l0 d0 tm b3 b4 z b2 found->dl.Nodup->(∀d∈dl,h2.get d=some (.deferred true)/\h0.next<=d/\d≠d0) ->
   Ok (E1 dl h2 fun h=>some (EV.tuple [],h)) fun v h'=>Mid h0 h' (fun x=>∃d,d<n/\x=c d) l0 d0 tm b3 b4 z b2 (hasB ps n z):=by
   rintro h2 dl found rfl M2 a1 L;refine Ok.unwind a1 (fun d hd=>(L d hd).1) M2.look.hb fun h3 ch bw=>.ret ?_
   have nk:∀b o,h2.get b=some o->o≠.deferred true->¬(b∈dl):=fun b o F f hb=>by rw[(L b hb).1]at F;cases F;exact f rfl
   have a:∀b o,h2.get b=some o->o≠.deferred true->h3.get b=some o:=fun b o F f=>Av.at ch M2.look.hb F (nk b o F f)
   refine⟨M2.kp.A9n ch fun i hi=>(L i hi).2.1,⟨a _ _ M2.look.lp (by simp[Au]),a _ _ M2.look.c3 (by simp),a _ _ M2.look.c4 (by simp),a _ _ M2.look.c2 (by simp),ch.hb M2.look.hb⟩,Av.at ch M2.look.hb M2.cd (fun y=>(L _ y).2.2 rfl),M2.n0,M2.n4,M2.nd⟩
  simp only[Ol,I,Ac,Aa];by_cases ah:(i:Int)<n
  ·have A:i<n:=by omega
   have a2:∀b o,h0.get b=some o->h.get b=some o:=fun b o F=>M.kp.at hb0 F
   have P1:=P.ext a2;simp only[ah,aB,Aa,Ajv];rw[P1.rowAt.ix A,P1.Bbk A]
   try simp only[Aa]
   refine Ok.st1 (Ad _ _) rfl rfl (by show 0<1;decide) ?_;have bz:=M.kp.chg.next
   have x1:Ext h ((h.new (.cells [.int .i64 0] 3)).put h.next (.cells [EV.int .i64 (i:Int)] 3)):=(Av.new _ _:Ext h _).Ar (.inr (aE _)) (aL _) _;have g5:((h.new (.cells [.int .i64 0] 3)).put h.next (.cells [EV.int .i64 (i:Int)] 3)).get h.next=some (.cells [I i] 3):=Af _ _ _
   simp only[List.set];generalize (h.new (.cells [.int .i64 0] 3)).put h.next (.cells [EV.int .i64 (i:Int)] 3)=W at x1 g5⊢
   have a6:=x1.hb M.look.hb;have b6:=x1.next
   simp only[Ag6,Aa];have x2:Ext h (W.new (.cells [.ptr (q i) 0] 124)):=x1.Ds _;have g6:(W.new (.cells [.ptr (q i) 0] 124)).get W.next=some (.cells [.ptr (q i) 0] 124):=Ad _ _
   have ai:(W.new (.cells [.ptr (q i) 0] 124)).get h.next=some (.cells [I i] 3):=by rw[Az _ (a6 _ _ g5)];exact g5
   have n2:W.next<(W.new (.cells [.ptr (q i) 0] 124)).next:=aL _
   generalize W.new (.cells [.ptr (q i) 0] 124)=h2 at x2 g6 ai n2⊢;have a7:=x2.hb M.look.hb;generalize ad:(((((((t1.put 13 (some (EV.bool true))).put 14 (some (EV.int .i64 (i:Int)))).put 15 (some (EV.ptr ql (i*1)))).put 16 (some (EV.ptr (q i) 0))).put 3 (some (EV.ptr h.next 0))).put 4 (some (EV.ptr (q i) 0))).put 17 (some (EV.ptr (q i) 0))).put 18 (some (EV.func 145 [] [EV.ptr W.next 0]))=t2;have v2:tmp t2 2=.ptr b2 0:=by rw[<-ad];simp only[Gz,reduceIte,Nat.reduceEqDiff,u2]
   have v3:tmp t2 3=.ptr h.next 0:=by rw[<-ad];simp only[Gz,reduceIte,Nat.reduceEqDiff]
   have ba:∀w,tmp ((t2.put 26 (some w)).put 12 (some w)) 2=.ptr b2 0:=fun w=>by simp only[Gz,reduceIte,Nat.reduceEqDiff,v2]
   clear ad;refine Ok.range ?_;have x3:Ext h (Ca TT 113 27 0 t2 h2):=x2.trans Jj;have al:=x3.hb M.look.hb;have C:∀b o,h.get b=some o->(Ca TT 113 27 0 t2 h2).get b=some o:=fun b o F=>x3.at M.look.hb F
   have X:∀b o,h2.get b=some o->(Ca TT 113 27 0 t2 h2).get b=some o:=fun b o F=>Ext.at Jj a7 F
   have L3:Bha (Ca TT 113 27 0 t2 h2) l0 d0 tm b3 b4 z b2 false:=⟨C _ _ M.look.lp,C _ _ M.look.c3,C _ _ M.look.c4,C _ _ M.look.c2,al⟩;have P3:=P1.ext C;obtain⟨e,rfl⟩:∃k,e=k+1:=⟨e-1,by omega⟩;refine(Br3 (K:=K) H T0 (l1:=h2.next+1) (d1:=h2.next) v2 v3 (e:=e) (by omega) hK (X _ _ g6) (P3.que i A) (P3.chan i A) (hps i A) (by omega) L3 J1 (X _ _ ai)).mono ?_;rintro v h4 ⟨L4,E,B,aq⟩;have ca:=aq.next
   have cc:h2.next+1<(Ca TT 113 27 0 t2 h2).next:=by rw[A3u];omega
   have bb:Kp (fun x=>∃d,d<n/\x=c d) h0 h4:=by
    refine⟨(M.kp.chg.trans (Ext.to x3)).then aq ?_,fun j hj=>?_⟩
    ·rintro j (rfl|rfl|rfl|rfl) hl
     ·exact⟨i,A,rfl⟩
     ·have:=M.n0;omega
     ·have:=M.n4;omega
     ·have:=x2.next;omega
    ·have bf:j<(Ca TT 113 27 0 t2 h2).next:=by have:=x3.next;omega
     rw[B j bf (by rintro(rfl|rfl|rfl)<;>(have:=M.n0;have:=M.n4;have:=x2.next;omega)),x3.get j (by omega) id];exact M.kp.same j hj
   have bj:h4.get h2.next=some (.deferred true):=by
    rw[B _ (by omega) ?_]
    ·exact Le
    ·rintro(y|y|y)
     ·have:=M.look.hb _ _ M.look.lp;omega
     ·have:=M.look.hb _ _ M.look.c4;omega
     ·omega
   have G:∀d,h.get d=some (.deferred true)->h4.get d=some (.deferred true):=fun d gd=>by
    have au:=C _ _ gd;rw[B d (al _ _ au) ?_]
    ·exact au
    ·rintro(rfl|rfl|rfl)
     ·rw[M.look.lp]at gd;cases gd
     ·rw[M.look.c4]at gd;cases gd
     ·have:=M.look.hb _ _ gd;omega
   have bk:∀o,h4.get (h2.next+1)=some o->∀b o',h4.get b=some o'->(∀st p,o'≠Au TT 113 27 0 t2 st p h2.next)->b≠h2.next+1:=by
    intro o ho b o' J f e';subst e';rw[E]at J;cases J;exact f _ _ rfl
   have O:∀(p5:Option Code),Mid h0 (h4.put (h2.next+1) (Au TT 113 27 0 t2 .exhausted p5 h2.next)) (fun x=>∃d,d<n/\x=c d) l0 d0 tm b3 b4 z b2 ((ps i).contains z):=by
    intro p5;have aw:h2.next+1<h4.next:=by omega
    have pn:∀b o',h4.get b=some o'->(∀st p,o'≠Au TT 113 27 0 t2 st p h2.next)->(h4.put (h2.next+1) (Au TT 113 27 0 t2 .exhausted p5 h2.next)).get b=some o':=fun b o' J f=>by
     rw[Ag _ (cV (bk _ E b o' J f))];exact J
    refine⟨bb.Ar (by have:=x2.next;omega) aw _,⟨pn _ _ L4.lp (by intros;simp[Au]),pn _ _ L4.c3 (by intros;simp[Au]),pn _ _ L4.c4 (by intros;simp[Au]),pn _ _ L4.c2 (by intros;simp[Au]),L4.hb.put aw _⟩,pn _ _ (G _ M.cd) (by intros;simp[Au]),M.n0,M.n4,M.nd⟩
   have Y:∀(p5:Option Code),∀d∈h2.next::ds,(h4.put (h2.next+1) (Au TT 113 27 0 t2 .exhausted p5 h2.next)).get d=some (.deferred true)/\h0.next<=d/\d≠d0:=by
    intro p5 d hd;rcases bU.1 hd with rfl|hd
    ·exact⟨by rw[Ag _];exact bj,by have:=x2.next;omega,by have:=M.look.hb _ _ M.cd;omega⟩
    ·obtain⟨a,b,c'⟩:=aa d hd
     exact⟨by rw[Ag _ (by have:=M.look.hb _ _ a;omega)];exact G _ a,b,c'⟩
   have ay:(h2.next::ds).Nodup:=cB.2 ⟨fun hd=>by have:=M.look.hb _ _ (aa _ hd).1;omega,af⟩;cases U:(ps i).contains z with
   | true=>
    rw[U]at E O;refine .inr ⟨E,?_⟩;exact fin _ _ true (Bsu A U).symm (O _) ay (Y _)
   | false=>
    rw[U]at E O;refine .inl ⟨E,?_⟩;simp only[Tn,Ac];rw[Cj];exact ih (i+1) _ _ _ (by omega) (by omega) (O _) (ba _) ay (Y _) (by rw[Blr,ag,U];rfl)
  ·have:i=n:=by omega
   subst this;simp only[ah,aA,Aa];exact fin h ds false ag.symm M af aa
end
section
variable (H:Bj disp){p:Nat}{q c:Nat->Nat}{g:Gm}(P:Fy h0 p ql n q c g ps)(hb0:HB h0)(hps:∀d,d<n->(ps d).length<=g.Z.toNat)(hZ:g.Z<=4096)(hn:n<=64)
include H P hb0 hps hZ hn
theorem Boz(hd:7<=d)(hK:5000<K)(z:Int):Ok (Ae TT disp K d false 29 [.ptr p 0,I z] h0) fun v h'=>v=.bool (hasB ps n z)/\Kp (fun x=>∃d,d<n/\x=c d) h0 h'/\HB h':=by
 obtain⟨e,rfl⟩:∃k,d=k+2:=⟨d-2,by omega⟩;rw[A0a H (by omega)];simp only[Awj,I,Aa,An0];have x1:Ext h0 (((h0.new (.cells [.int .i64 z] 3)).new (.cells [.bool false] 4)).new (.cells [.ptr p 0] 57)):=((Av.new _ _).Ds _).Ds _;have n1:(((h0.new (.cells [.int .i64 z] 3)).new (.cells [.bool false] 4)).new (.cells [.ptr p 0] 57)).next=h0.next+3:=rfl
 have C:(((h0.new (.cells [.int .i64 z] 3)).new (.cells [.bool false] 4)).new (.cells [.ptr p 0] 57)).get (h0.next+2)=some (.cells [.ptr p 0] 57):=Ad _ _;have g4:(((h0.new (.cells [.int .i64 z] 3)).new (.cells [.bool false] 4)).new (.cells [.ptr p 0] 57)).get (h0.next+1)=some (.cells [.bool false] 4):=by
  rw[Az _ (aL _)];exact Ad _ _
 have g3:(((h0.new (.cells [.int .i64 z] 3)).new (.cells [.bool false] 4)).new (.cells [.ptr p 0] 57)).get h0.next=some (.cells [I z] 3):=by
  rw[Az _ (show h0.next<h0.next+2 by omega),Az _ (show h0.next<h0.next+1 by omega)];exact Ad _ _
 have ag:((h0.new (.cells [.int .i64 z] 3)).new (.cells [.bool false] 4)).next=h0.next+2:=rfl
 have ah:(h0.new (.cells [.int .i64 z] 3)).next=h0.next+1:=rfl
 rw[ag,ah];generalize ((h0.new (.cells [.int .i64 z] 3)).new (.cells [.bool false] 4)).new (.cells [.ptr p 0] 57)=f at x1 n1 C g4 g3⊢;have L:=x1.hb hb0;generalize O:(((((Tr.nil.put 0 (some (EV.ptr p 0))).put 1 (some (EV.int .i64 z))).put 3 (some (EV.ptr h0.next 0))).put 4 (some (EV.ptr (h0.next+1) 0))).put 7 (some (EV.ptr p 0))).put 8 (some (EV.func 113 [] [EV.ptr (h0.next+2) 0]))=tm;have T0:Bpp tm h0.next (h0.next+1):=⟨by rw[<-O];simp only[Gz,reduceIte,Nat.reduceEqDiff],by rw[<-O];simp only[Gz,reduceIte,Nat.reduceEqDiff]⟩
 clear O;refine Ok.range ?_;rw[Avt H (by omega)];simp only[Arq,Aa];have x2:Ext f (Ca TT 29 14 0 tm f):=Jj;have Y:=x2.hb L;have ai:Wy 153 (.yld (f.next+1)) (Ca TT 29 14 0 tm f)=fun(k:EV->Ab->R)=>k (.ptr (f.next+2) 0) ((Ca TT 29 14 0 tm f).new (.cells [.yld (f.next+1)] 153)):=rfl
 rw[ai];have x3:Ext f ((Ca TT 29 14 0 tm f).new (.cells [.yld (f.next+1)] 153)):=x2.Ds _;have k2:((Ca TT 29 14 0 tm f).new (.cells [.yld (f.next+1)] 153)).get (f.next+2)=some (.cells [.yld (f.next+1)] 153):=Ad _ _;have kl:((Ca TT 29 14 0 tm f).new (.cells [.yld (f.next+1)] 153)).get (f.next+1)=some (Au TT 29 14 0 tm .ready none f.next):=by rw[Az _ (Y _ _ J1)];exact J1
 have kd:((Ca TT 29 14 0 tm f).new (.cells [.yld (f.next+1)] 153)).get f.next=some (.deferred true):=by rw[Az _ (Y _ _ Le)];exact Le
 generalize (Ca TT 29 14 0 tm f).new (.cells [.yld (f.next+1)] 153)=h3 at x3 k2 kl kd⊢;have aj:=x3.hb L;have E:∀b o,f.get b=some o->h3.get b=some o:=fun b o C=>x3.at L C
 have P3:Fy h3 p ql n q c g ps:=P.ext fun b o C=>E _ _ (x1.at hb0 C)
 simp only[C8 (E _ _ C) rfl,Aa,P3.list];have M3:Mid h0 h3 (fun x=>∃d,d<n/\x=c d) (f.next+1) f.next tm h0.next (h0.next+1) z (f.next+2) false:=
  ⟨Ext.kp (x1.trans x3),⟨kl,E _ _ g3,E _ _ g4,k2,aj⟩,kd,by omega,by omega,by omega⟩
 refine(Bpj (K:=K) H P hb0 hps hZ hn T0 (e:=e) (by omega) hK K 0 h3 _ [] (by omega) (by omega) M3 (by simp only[Gz,reduceIte,Nat.reduceEqDiff]) cq (fun d hd=>by cases hd) rfl).mono ?_;rintro v h4 A;have aa:=A.look.hb _ _ A.look.lp;have nl:∀b o st G,h4.get b=some o->(∀st p,o≠Au TT 29 14 0 tm st p f.next)->(h4.put (f.next+1) (Au TT 29 14 0 tm st G f.next)).get b=some o:=fun b o st G C al=>by
  rw[Ag _ (Bb A.look.lp C (fun y=>al _ _ y.symm))];exact C
 have J:∀st G,Kp (fun x=>∃d,d<n/\x=c d) h0 (h4.put (f.next+1) (Au TT 29 14 0 tm st G f.next)):=fun st G=>A.kp.Ar (by omega) aa _
 have F:∀st G,HB (h4.put (f.next+1) (Au TT 29 14 0 tm st G f.next)):=fun st G=>A.look.hb.put aa _
 have j:∀(B:Ab) (b:Bool),B.get (h0.next+1)=some (.cells [.bool b] 4)->Ji TT [.c (.ptr (h0.next+1) 0) 4] B=some (.bool b,B):=by
  intro B b hg;have hr:K0 B (h0.next+1) 0 1=some [.bool b]:=by unfold K0;rw[hg];rfl
  unfold Ji;simp only[A22,show TT.size 4=some 1 by kernel_rfl,show TT.agg 4=some false by kernel_rfl,hr]
 cases hf:hasB ps n z with
 | true=>
  rw[hf]at A;refine .inr ⟨A.look.lp,?_⟩;refine Ok.unwind (cB.2 ⟨by simp,cq⟩) (fun d hd=>by rw[aO]at hd;subst hd;exact nl _ _ _ _ A.cd (by intros;simp[Au])) (F _ _) fun B U ao=>?_
  have W:B.get (h0.next+1)=some (.cells [.bool true] 4):=Av.at U (F _ _) (nl _ _ _ _ A.look.c4 (by intros;simp[Au])) (by simp;omega);rw[j B true W];exact .ret ⟨rfl,(J _ _).A9n U fun i hi=>by rw[aO]at hi;omega,U.hb (F _ _)⟩
 | false=>
  rw[hf]at A;refine .inl ⟨A.look.lp,?_⟩;simp only[Ael,dr];refine Ok.st1 (nl _ _ _ _ A.look.c4 (by intros;simp[Au])) rfl rfl (by show 0<1;decide) ?_;have ab:h0.next+1<(h4.put (f.next+1) (Au TT 29 14 0 tm .exhausted none f.next)).next:=A.look.hb _ _ A.look.c4
  have X:HB ((h4.put (f.next+1) (Au TT 29 14 0 tm .exhausted none f.next)).put (h0.next+1) (.cells ([EV.bool false].set 0 (.bool false)) 4)):=(F _ _).put ab _;refine Ok.unwind (cB.2 ⟨by simp,cq⟩) (fun d hd=>by rw[aO]at hd;subst hd;rw[Ag _];exact nl _ _ _ _ A.cd (by intros;simp[Au])) X fun B U ao=>?_
  have W:B.get (h0.next+1)=some (.cells [.bool false] 4):=Av.at U X (Af _ _ _) (by simp;omega);rw[j B false W];exact .ret ⟨rfl,((J _ _).Ar (by omega) ab _).A9n U fun i hi=>by rw[aO]at hi;omega,U.hb X⟩
end
end
section
def Bu(g:Gm)(z:Int):Int:=if z<0\/g.D*g.Z<=z then -1 else z/g.Z
theorem Lt {g:Gm}(s:Sm g)(z:Int)(G : -9223372036854775808<=z/\z<=9223372036854775807)(h:Ab):Ok (Fe K (gV g) (I z) h) fun v h'=>v=I (Bu g z)/\Ext h h':=by
 have:=s.d0;have:=s.d1;have:=s.z0;have:=s.z1;obtain⟨J,m1⟩:=Va (a:=g.D) (b:=g.Z) (A:=8) (B:=64) (by omega) (by omega) (by omega) (by omega);simp only[Fe,gV,Aa,I,Ac];have C:(h.new (.cells (gL g) 23)).get h.next=some (.cells (gL g) 23):=Ad _ _
 have hn:h.next<(h.new (.cells (gL g) 23)).next:=aL _
 have y:Ext h (h.new (.cells (gL g) 23)):=Av.new _ _;generalize h.new (.cells (gL g) 23)=E at C hn y⊢;unfold Bu;by_cases F:z<0
 ·simp only[F,aB,Aa,Ac,Zx]
  exact .ret ⟨by rw[aG (.inl trivial)],y⟩
 ·simp only[F,aA,Aa,Ac,Db C rfl,Ai (show(gL g).length=6 from rfl)]
  rw[show EV.agg (gL g)=gV g from rfl,Lo s,As];simp only[I,Ac,Zx];by_cases h2:g.D*g.Z<=z
  ·simp only[h2,aB,Aa]
   exact .ret ⟨by rw[aG (.inr trivial)],y.Ds _⟩
  ·have f:(E.new (.cells (gL g) 23)).get h.next=some (.cells (gL g) 23):=by rw[Az _ hn];exact C
   have j:Ext h (E.new (.cells (gL g) 23)):=y.Ds _;generalize E.new (.cells (gL g) 23)=hc at f j⊢;simp only[h2,aA,Aa,Ahx,C8 f rfl,gL,I];rw[Bnd (by omega) (by omega) (by omega)];exact .ret ⟨by rw[aF (by rintro(x|x)<;>exact x)],j⟩
def upd(ps:Nat->List Int)(d:Nat)(l:List Int):Nat->List Int:=fun e=>if e=d then l else ps e
def Azs(n:Nat)(c:Nat->Nat):Nat->Prop:=fun x=>∃d,d<n/\x=c d
def A9k:Ec->Prop
 | .chan ..=>False
 | _=>True
theorem Fy.Bse{p:Nat}{q c:Nat->Nat}{g:Gm}(P:Fy h p ql n q c g ps){b:Nat}(f:h.get b=some o)(j:A9k o):¬Azs n c b:=by
 rintro⟨d,hd,rfl⟩;rw[P.chan d hd]at f;cases f;exact j
theorem Fy.put{p:Nat}{q c:Nat->Nat}{g:Gm}(P:Fy h p ql n q c g ps)(hd:d<n)(l:List Int):Fy (h.put (c d) (.chan g.Z.toNat (l.map I))) p ql n q c g (upd ps d l):=by
 have ne:∀b o,h.get b=some o->A9k o->(h.put (c d) (.chan g.Z.toNat (l.map I))).get b=some o:=fun b o j y=>by
  rw[Ag _ (fun e=>P.Bse j y ⟨d,hd,e.symm⟩)];exact j
 refine⟨P.pos,ne _ _ P.Hp trivial,ne _ _ P.row trivial,fun e he=>ne _ _ (P.que e he) trivial,fun e he=>?_,P.inj⟩;unfold upd;by_cases f:e=d
 ·subst f;rw[aG rfl];exact Af _ _ _
 ·rw[aF f,Ag _ (fun x=>f (P.inj _ _ he hd x.symm))];exact P.chan e he
theorem Fy.kp{p:Nat}{q c:Nat->Nat}{g:Gm}(P:Fy h p ql n q c g ps)(hb:HB h)(k:Kp S h h'):Fy h' p ql n q c g ps:=P.ext fun i o g=>k.at hb g
structure Yc(n:Nat)(g:Gm)(ps:Nat->List Int):Prop where
 nd:n=g.D.toNat
 sm:Sm g
 cap:∀d,d<n->(ps d).length<=g.Z.toNat
theorem Yc.bd{g:Gm}(z:Yc n g ps):n<=8/\g.Z<=64/\(n:Int)=g.D:=by
 have:=z.nd;have:=z.sm.d0;have:=z.sm.d1;have:=z.sm.z1;omega
theorem Yc.small{g:Gm}(z:Yc n g ps):Bf1 n ps:=by
 obtain⟨a,b,_⟩:=z.bd;exact⟨by omega,fun d hd=>by have:=z.cap d hd;omega⟩
theorem Yc.upd{g:Gm}(z:Yc n g ps){l:List Int}(f:l.length<=g.Z.toNat):Yc n g (upd ps d l):=
 ⟨z.nd,z.sm,fun e he=>by unfold Ev.upd;split;exact f;exact z.cap e he⟩
def Abk(g:Gm)(n:Nat)(ps:Nat->List Int)(z:Int):Int × (Nat->List Int):=
 if Bu g z<0 then(13,ps)else if hasB ps n z then(16,ps)else
  if(ps (Bu g z).toNat).length<g.Z.toNat then(0,upd ps (Bu g z).toNat (ps (Bu g z).toNat++[z]))else(17,ps)
theorem Ko {g:Gm}(s:Sm g)(z:Int):Bu g z = -1\/(0<=Bu g z/\Bu g z<g.D/\Bu g z=z/g.Z/\0<=z/\z<g.D*g.Z):=by
 have:=s.z0;unfold Bu;split
 ·exact .inl rfl
 ·refine .inr ⟨Int.ediv_nonneg (by omega) (by omega),Int.ediv_lt_of_lt_mul (by omega) (by omega),rfl,by omega,by omega⟩
section
variable (H:Bj disp){p:Nat}{q c:Nat->Nat}{g:Gm}(P:Fy h p ql n q c g ps)(hb:HB h)(Z:Yc n g ps)(hK:5000<K)
include P hb Z hK
theorem A89(d:Int):Ok (Sb K (.ptr p 0) (I d) h) fun v h'=>Av (Azs n c) h h'/\HB h'/\∃x e ps',v=.tuple [I x,I e]/\Fy h' p ql n q c g ps'/\Yc n g ps' /\
 ((d<0\/(n:Int)<=d)/\x=0/\e=13/\ps'=ps\/(0<=d/\d<n/\ps d.toNat = []/\x=0/\e=15/\ps'=ps)\/(0<=d/\d<n/\e=0/\∃r,ps d.toNat=x::r/\ps'=upd ps d.toNat r)):=by
 simp only[Sb,I,Ac,Aa];by_cases j:d<0
 ·simp only[j,aB,Aa,Ac,Abu]
  exact .ret ⟨Av.refl _,hb,0,13,ps,rfl,P,Z,.inl ⟨.inl trivial,rfl,rfl,rfl⟩⟩
 ·simp only[j,aA,Aa,Ac,P.list,Abu]
  by_cases h2:(n:Int)<=d
  ·simp only[h2,aB,Aa]
   exact .ret ⟨Av.refl _,hb,0,13,ps,rfl,P,Z,.inl ⟨.inr trivial,rfl,rfl,rfl⟩⟩
  ·obtain⟨d,rfl⟩:=aY (show 0<=d by omega)
   have hd:d<n:=by omega
   simp only[h2,aA,Aa,Alo,P.list];rw[P.rowAt.ix hd];simp only[P.Bbk hd];cases f:ps d with
   | nil=>
    rw[take_nil (P.que _ hd) (P.chan _ hd) f];simp only[Aa];exact .ret ⟨Av.refl _,hb,0,15,ps,rfl,P,Z,.inr (.inl ⟨by omega,by omega,f,rfl,rfl,rfl⟩)⟩
   | cons x r=>
    rw[take_cons (P.que _ hd) (P.chan _ hd) f];simp only[Aa];have lt:=hb _ _ (P.chan _ hd);refine .ret ⟨(Av.refl h).Ar (.inl ⟨_,hd,rfl⟩) lt _,hb.put lt _,x,0,upd ps d r,rfl,P.put hd r,Z.upd ?_,.inr (.inr ⟨by omega,by omega,rfl,r,f,rfl⟩)⟩;have:=Z.cap _ hd;rw[f]at this;simp at this;omega
include H
theorem Bjd(hd:8<=d)(z:Int)(O : -9223372036854775808<=z/\z<=9223372036854775807):Ok (Ae TT disp K d false 56 [.ptr p 0,I z] h) fun v h'=>Av (Azs n c) h h'/\HB h'/\v=I (Abk g n ps z).1/\Fy h' p ql n q c g (Abk g n ps z).2/\Yc n g (Abk g n ps z).2:=by
 obtain⟨e,rfl⟩:∃k,d=k+1:=⟨d-1,by omega⟩;obtain⟨b1,b2,b3⟩:=Z.bd;rw[Aw7 H (by omega)];simp only[At8,Aa,P.Bhp];refine(Lt Z.sm z O h).An ?_;rintro _ U ⟨rfl,C⟩;have A:=C.hb hb;have E:=P.ext fun i o g=>C.at hb g
 simp only[I,Ac];unfold Abk;rcases Ko Z.sm z with F|⟨d0,d1,d2,d3,d4⟩
 ·rw[F]
  simp only[show(-1:Int)<0 by decide,aB,Aa,bM];exact .ret ⟨Ext.to C,A,rfl,E,Z⟩
 ·have G:¬Bu g z<0:=by omega
  simp only[G,aA,Aa,bD];refine(Boz (K:=K) H E A Z.cap (by omega) (by omega) (d:=e) (by omega) hK z).An ?_;rintro _ h2 ⟨rfl,L,y⟩;have j:=E.kp A L;have B:Av (Azs n c) h h2:=(Ext.to C).trans L.chg;cases W:hasB ps n z with
  | true=>
   simp only[Aa,bM];exact .ret ⟨B,y,rfl,j,Z⟩
  | false=>
   have f:(Bu g z).toNat<n:=by omega
   simp only[Aa,Am9,j.list];rw[show Bu g z=((Bu g z).toNat:Int) by omega,j.rowAt.ix f];simp only[j.Bbk f,aZ];have lt:=y _ _ (j.chan _ f);by_cases J:(ps (Bu g z).toNat).length<g.Z.toNat
   ·rw[A8m (j.que _ f) (j.chan _ f) z J,As]
    rw[aG J];refine .ret ⟨B.Ar (.inl ⟨_,f,rfl⟩) lt _,y.put lt _,rfl,j.put f _,Z.upd ?_⟩;rw[aH];simp;omega
   ·rw[Bux (j.que _ f) (j.chan _ f) z (by omega),As]
    rw[aF J];exact .ret ⟨B,y,rfl,j,Z⟩
end
end
section
def Sx(z:Int)(xs:List Int):List Int:=xs.filter fun x=>decide (¬x=z)
theorem Boc(z x:Int)(r:List Int):Sx z (x::r)=(if x=z then[]else[x])++Sx z r:=by
 unfold Sx;rw[eP];by_cases h:x=z<;>simp[h]
theorem Bhq(z:Int)(a b:List Int):Sx z (a++b)=Sx z a++Sx z b:=eT ..
theorem Bjb(z:Int)(xs:List Int):(Sx z xs).length<=xs.length:=eU _ _
section
variable (H:Bj disp)(hK:5000<K)
include H hK
theorem Bkt(he:1<=e){q c:Nat}{z:Int}(y:h0.get q=some (.cells [.chan c] 176))(f:∃b,h0.get c=some (.chan cap b))(F:h0.get b3=some (.cells [I z] 3))(ab:xs.length<=cap)(ae:cap<=4096)(hb0:HB h0):∀(m i:Nat) (h:Ab),xs.length-i<m->i<=xs.length ->
 h.get c=some (.chan cap ((xs.drop i++Sx z (xs.take i)).map I))->Av (fun j=>j=c) h0 h->HB h ->
 Ok (Ms (Ae TT disp K e false) (Ae TT disp K e true) K m (.ptr q 0) (.func 192 [] [.ptr b3 0]) (I ((i:Int)-(Sx z (xs.take i)).length)) (I xs.length) (I i) h) fun v h'=>v=I ((xs.length:Int)-(Sx z xs).length)/\h'.get c=some (.chan cap ((Sx z xs).map I))/\Av (fun j=>j=c) h0 h'/\HB h':=by
 obtain⟨b0,f⟩:=f;have G:q≠c:=Bb y f (by simp);have X:b3≠c:=Bb F f (by simp);have lc:=hb0 _ _ f;intro m;induction m with
 | zero=>intro i h hm;omega
 | succ m ih=>
  intro i h hm hi hc x hb;simp only[Ms,I,Ac,Aa];by_cases J:(i:Int)<xs.length
  ·have L:i<xs.length:=by omega
   have hq:h.get q=some (.cells [.chan c] 176):=Av.at x hb0 y G;have O:c<h.next:=aK lc x.next
   have ed:xs.drop i=xs[i]::xs.drop (i+1):=dE L;have E:Sx z (xs.take (i+1))=Sx z (xs.take i)++(if xs[i]=z then[]else[xs[i]]):=by
    rw[dW L,Bhq,Boc];simp[Sx]
   rw[ed,List.cons_append]at hc;have bl:=Bjb z (xs.take i);rw[cD]at bl;simp only[J,aB,Aa,Ahi];rw[take_cons hq hc rfl];simp only[Aa,I,Ac,aD,aA,Ahq];have U:Av (fun j=>j=c) h0 (h.put c (.chan cap ((xs.drop (i+1)++Sx z (xs.take i)).map I))):=x.Ar (.inl rfl) O _;have A:HB (h.put c (.chan cap ((xs.drop (i+1)++Sx z (xs.take i)).map I))):=hb.put O _;have B:(h.put c (.chan cap ((xs.drop (i+1)++Sx z (xs.take i)).map I))).get c=some (.chan cap ((xs.drop (i+1)++Sx z (xs.take i)).map I)):=Af _ _ _;have Y:(h.put c (.chan cap ((xs.drop (i+1)++Sx z (xs.take i)).map I))).next=h.next:=rfl
   generalize h.put c (.chan cap ((xs.drop (i+1)++Sx z (xs.take i)).map I))=h2 at U A B Y⊢;have g3:h2.get b3=some (.cells [I z] 3):=Av.at U hb0 F X;have C:Xq (Ae TT disp K e false) (Ae TT disp K e true) (.func 192 [] [.ptr b3 0]) [.int .i64 xs[i]] h2=some (.bool (decide (¬xs[i]=z)),h2):=by
    show Ae TT disp K e false 192 [.int .i64 xs[i],.ptr b3 0] h2=_;rw[Auq H he];simp only[Aog,C8 g3 rfl,Aa,I,Ac]
   rw[C,As];by_cases W:xs[i]=z
   ·rw[aG W,dK]at E
    simp only[W,aD,aA,Aa,Ac,Qx];rw[Cj (n:=(i:Int)-(Sx z (xs.take i)).length+1) (by omega) (by omega),Cj (n:=(i:Int)+1) (by omega) (by omega)];have:=ih (i+1) h2 (by omega) (by omega) (by rw[E];exact B) U A;rw[E]at this;have e3:(i:Int)-(Sx z (xs.take i)).length+1=((i+1:Nat):Int)-(Sx z (xs.take i)).length:=by omega
    rw[e3];exact this
   ·rw[aF W]at E
    simp only[W,aN,aB,Aa,Ac,Ahp];have aa:h2.get q=some (.cells [.chan c] 176):=Av.at U hb0 y G;rw[show EV.int .i64 xs[i]=I xs[i]from rfl,A8m aa B xs[i] (by rw[aH,bW];omega),As];simp only[Qx,Ac];rw[Cj (n:=(i:Int)+1) (by omega) (by omega)];have:=ih (i+1) (h2.put c (.chan cap ((xs.drop (i+1)++Sx z (xs.take i)++[xs[i]]).map I))) (by omega) (by omega) (by rw[E,<-cW];exact Af _ _ _) (U.Ar (.inl rfl) (by omega) _) (A.put (by omega) _);rw[E,aH]at this;have e3:(i:Int)-(Sx z (xs.take i)).length=((i+1:Nat):Int)-((Sx z (xs.take i)).length+[xs[i]].length:Nat):=by simp;omega
    rw[e3];exact this
  ·have:i=xs.length:=by omega
   subst this;rw[List.drop_length,dS,cN]at hc;rw[cN];simp only[J,aA,Aa,Zh];exact .ret ⟨rfl,hc,x,hb⟩
theorem Brj{p:Nat}{q c:Nat->Nat}{g:Gm}(P:Fy h p ql n q c g ps)(hb:HB h)(Z:Yc n g ps)(hd:4<=d)(z:Int)(hz : -9223372036854775808<=z/\z<=9223372036854775807):
 Ok (Ae TT disp K d false 162 [.ptr p 0,I z] h) fun v h'=>(∃e,v=I e)/\Av (Azs n c) h h'/\HB h'/\Fy h' p ql n q c g (if Bu g z<0 then ps else upd ps (Bu g z).toNat (Sx z (ps (Bu g z).toNat)))/\Yc n g (if Bu g z<0 then ps else upd ps (Bu g z).toNat (Sx z (ps (Bu g z).toNat))):=by
 obtain⟨e,rfl⟩:∃k,d=k+2:=⟨d-2,by omega⟩;obtain⟨b1,b2,b3⟩:=Z.bd;rw[Axd H (by omega)];simp only[As8,I,Aa];obtain⟨h1,e_,U,W,n1⟩:=nW h (.cells [.int .i64 z] 3);rw[e_];have B:=U.hb hb;have X:=P.ext fun i o g=>U.at hb g
 have lp:=B _ _ X.Hp;have l3:=B _ _ W;simp only[Aa,Aw,Cv lp,Cv l3,X.Bhp,C8 W rfl];refine Ok.bE (Lt Z.sm z hz _) (fun _ _ p=>p.2) ?_;rintro _ _ h2 ⟨rfl,_⟩ _ O;have C:=O.hb B;have A:=X.ext fun i o g=>O.at B g
 have F:=U.trans O;simp only[I,Ac];rcases Ko Z.sm z with Y|⟨d0,d1,d2,d3,d4⟩
 ·rw[Y]
  simp only[show(-1:Int)<0 by decide,aB,Aa,Ac,bM,Wv];exact .ret ⟨⟨15,rfl⟩,Ext.to F,C,A,Z⟩
 ·have G:¬Bu g z<0:=by omega
  simp only[G,aA,Aa,Ac,bD,A.list];generalize ao:Bu g z=dm at d0 d1 G;obtain⟨dn,rfl⟩:=aY d0;have f:dn<n:=by omega
  rw[A.rowAt.ix f];simp only[A.Bbk f,aZ];rw[Auk H (by omega)];simp only[Aou,dr];rw[A.len f,As];have J:=A.chan _ f;have:=Bkt (K:=K) H hK (e:=e) (by omega) (z:=z) (xs:=ps dn) (A.que _ f) ⟨_,J⟩ (O.at B W) (Z.cap _ f) (by omega) C K 0 h2 (by have:=Z.cap _ f;omega) (by omega) (by rw[dC,List.take_zero,show Sx z [] = []from rfl,dK];exact J) (Av.refl _) C;refine Ok.An (P:=fun v h'=>v=I (((ps dn).length:Int)-(Sx z (ps dn)).length)/\h'.get (c dn)=some (.chan g.Z.toNat ((Sx z (ps dn)).map I))/\Av (fun j=>j=c dn) h2 h'/\HB h') this ?_;rintro _ h3 ⟨rfl,ab,x3,L⟩;simp only[Ac,I];have ch:Av (Azs n c) h h3:=(Ext.to F).trans (x3.mono fun i hi=>⟨dn,f,hi⟩);have P3:Fy h3 p ql n q c g (upd ps dn (Sx z (ps dn))):=by
   have ne:∀b o,h2.get b=some o->A9k o->h3.get b=some o:=fun b o gb ho=>Av.at x3 C gb fun e=>A.Bse gb ho ⟨dn,f,e⟩
   refine⟨A.pos,ne _ _ A.Hp trivial,ne _ _ A.row trivial,fun e he=>ne _ _ (A.que e he) trivial,fun e he=>?_,A.inj⟩;unfold upd;by_cases E:e=dn
   ·subst E;rw[aG rfl];exact ab
   ·rw[aF E];exact Av.at x3 C (A.chan e he) fun y=>E (A.inj _ _ he f y)
  have Z3:Yc n g (upd ps dn (Sx z (ps dn))):=Z.upd (bN (Bjb _ _) (Z.cap _ f));by_cases h0:((ps dn).length:Int)-(Sx z (ps dn)).length=0
  ·simp only[h0,aB,Wv,Aa]
   exact .ret ⟨⟨15,rfl⟩,ch,L,P3,Z3⟩
  ·simp only[h0,aA,Wv,Aa,Am2]
   exact .ret ⟨⟨0,rfl⟩,ch,L,P3,Z3⟩
end
theorem Avd(ps:Nat->List Int)(b:Int):∀n,(Ew ps b n = -1/\∀d:Nat,d<n->(d:Int)=b)\/(0<=Ew ps b n/\Ew ps b n<n/\¬Ew ps b n=b/\∀d:Nat,d<n->(d:Int)=b\/(ps d).length<=(ps (Ew ps b n).toNat).length)
 | 0=>.inl ⟨rfl,fun d hd=>absurd hd (br _)⟩
 | n+1=>by
  have A:=Avd ps b n;rw[Axq];unfold Bew;rcases A with⟨f,j⟩|⟨f,j,B,a4⟩
  ·by_cases hb:(n:Int)=b
   ·rw[aF (fun x=>x.1 hb)]
    exact .inl ⟨f,fun d hd=>by rcases cL.1 hd with h|h;exact j d h;subst h;exact hb⟩
   ·rw[aG ⟨hb,.inl (by omega)⟩]
    refine .inr ⟨by omega,by omega,hb,fun d hd=>?_⟩;rcases cL.1 hd with h|h
    ·exact .inl (j d h)
    ·subst h;exact .inr (by simp)
  ·by_cases hc:¬(n:Int)=b/\(Ew ps b n<0\/(ps (Ew ps b n).toNat).length<(ps n).length)
   ·rw[aG hc]
    refine .inr ⟨by omega,by omega,hc.1,fun d hd=>?_⟩;rcases cL.1 hd with h|h
    ·rcases a4 d h with y|y
     ·exact .inl y
     ·refine .inr ?_
      rcases hc.2 with z|z
      ·omega
      ·simp only[aZ];omega
    ·subst h;exact .inr (by simp)
   ·rw[aF hc]
    refine .inr ⟨f,by omega,B,fun d hd=>?_⟩;rcases cL.1 hd with h|h
    ·exact a4 d h
    ·subst h
     by_cases hb:(d:Int)=b
     ·exact .inl hb
     ·exact .inr (by have:¬(ps (Ew ps b d).toNat).length<(ps d).length:=fun y=>hc ⟨hb,.inr y⟩;omega)
theorem Bi9{a:Nat}:∀n,(∀d,d<n->d=a\/ps d = [])->Qq ps n<=(ps a).length
 | 0,_=>by unfold Qq;simp
 | n+1,h=>by
  rw[Ky];rcases h n (aL _)with e|e
  ·subst e
   have:Qq ps n=0:=by
    have:∀k,k<=n->Qq ps k=0:=by
     intro k j;induction k with
     | zero=>rfl
     | succ k f=>
      rw[Ky,f (by omega)];rcases h k (by omega)with e|e
      ·omega
      ·rw[e];rfl
    exact this n (aE _)
   omega
  ·rw[e];have:=Bi9 (a:=a) n fun d hd=>h d (Nat.lt_succ_of_lt hd);simp;omega
theorem A77(h:F7 ps n≠0)(hp:0<=F7 ps n):∃a b:Nat,Ew ps (-1) n=a/\Ew ps a n=b/\a<n/\b<n/\a≠b/\ps a≠[]/\ps b≠[]:=by
 have f:0<F7 ps n:=by omega
 unfold F7 at f;rw[Int.lt_min]at f;obtain⟨p1,p2⟩:=f;rcases Avd ps (-1) n with⟨J,C⟩|⟨J,C,_,a4⟩
 ·have:n=0:=by
   cases n with
   | zero=>rfl
   | succ n=>have:=C 0 (by omega);omega
  subst this;unfold Qq at p1;simp at p1
 ·obtain⟨a,L⟩:=aY J
  rw[L]at C a4 p2;have E:a<n:=by omega
  have e1:Aup ps n a=(ps a).length:=by unfold Aup;rw[aG (by omega)];rfl
  rw[e1]at p2;have hex:∃d,d<n/\d≠a/\ps d≠[]:=by
   apply Classical.byContradiction;intro F;have:=Bi9 (ps:=ps) (a:=a) n fun d hd=>by
    by_cases A:d=a
    ·exact .inl A
    ·refine .inr (Classical.byContradiction fun j=>F ⟨d,hd,A,j⟩)
   omega
  obtain⟨d,hd,A,j⟩:=hex;have G:ps a≠[]:=fun e=>by
   rcases a4 d hd with y|y
   ·omega
   ·rw[aZ,e]at y;exact j (cR.1 (by simpa using y))
  rcases Avd ps a n with⟨b1,b2⟩|⟨b1,b2,b3,b4⟩
  ·have:=b2 d hd;omega
  ·obtain⟨b,B⟩:=aY b1
   rw[B]at b2 b3 b4;refine⟨a,b,L,B,E,by omega,by omega,G,fun e=>?_⟩;rcases b4 d hd with y|y
   ·omega
   ·rw[aZ,e]at y;exact j (cR.1 (by simpa using y))
theorem Av4:0<=F7 ps n:=by
 unfold F7;have:Aup ps n (Ew ps (-1) n)<=Qq ps n:=by
  unfold Aup;split
  ·rename_i h
   have:∀m d,d<m->(ps d).length<=Qq ps m:=by
    intro m;induction m with
    | zero=>intro d hd;omega
    | succ m f=>
     intro d hd;rw[Ky];rcases cL.1 hd with h|h
     ·have:=f d h;omega
     ·subst h;omega
   exact this n _ (by omega)
  ·omega
 omega
section
variable{p:Nat}{q c:Nat->Nat}{g:Gm}(P:Fy h p ql n q c g ps)(hb:HB h)(Z:Yc n g ps)(hK:5000<K)
include P hb Z hK
theorem Bsn:Ok (Acu K (.ptr p 0) h) fun v h'=>Av (Azs n c) h h'/\HB h'/\((F7 ps n=0/\v=.tuple [I 0,I 0,I 15]/\Fy h' p ql n q c g ps) \/
 ∃(a b:Nat) (x y:Int) (r s:List Int),¬F7 ps n=0/\Ew ps (-1) n=a/\Ew ps a n=b/\a<n/\b<n/\a≠b/\ps a=x::r/\ps b=y::s/\v=.tuple [I x,I y,I 0]/\Fy h' p ql n q c g (upd (upd ps a r) b s)/\Yc n g (upd (upd ps a r) b s)):=by
 obtain⟨b1,b2,b3⟩:=Z.bd;simp only[Acu,dr];refine(A4y P hb Z.small (by omega)).An ?_;rintro _ h1 ⟨rfl,C⟩;have f:=C.hb hb;have E:=P.ext fun i o g=>C.at hb g
 simp only[I,Ac];by_cases hp:F7 ps n=0
 ·simp only[hp,aB,Aa]
  exact .ret ⟨Ext.to C,f,.inl ⟨trivial,rfl,E⟩⟩
 ·simp only[hp,aA,Aa,Ana]
  obtain⟨a,b,ha,A,F,G,B,J,hb0⟩:=A77 hp Av4;refine(Axr E f (by omega) (by omega) (-1)).An ?_;rintro _ h2 ⟨rfl,L⟩;have j:=L.hb f;have P2:=E.ext fun i o g=>L.at f g
  rw[ha];refine(Axr P2 j (by omega) (by omega) a).An ?_;rintro _ h3 ⟨rfl,O⟩;have U:=O.hb j;have P3:=P2.ext fun i o g=>O.at j g
  rw[A];refine(A89 P3 U Z hK a).An ?_;rintro _ h4 ⟨c4,W,x,e,ps',rfl,P4,Z4,X⟩;have hx:e=0/\∃r,ps a=x::r/\ps'=upd ps a r:=by
   rcases X with⟨y,_⟩|⟨_,_,y,_⟩|⟨_,_,y,z⟩
   ·omega
   ·rw[aZ]at y;exact absurd y J
   ·rw[aZ]at z;exact⟨y,z⟩
  obtain⟨rfl,r,Y,rfl⟩:=hx;simp only[Aa];refine(A89 P4 W Z4 hK b).An ?_;rintro _ h5 ⟨c5,aa,y,e,ps',rfl,P5,Z5,X⟩;have eb:upd ps a r b=ps b:=by unfold upd;rw[aF (cV B)]
  have hy:e=0/\∃s,ps b=y::s/\ps'=upd (upd ps a r) b s:=by
   rcases X with⟨w,_⟩|⟨_,_,w,_⟩|⟨_,_,w,z⟩
   ·omega
   ·rw[aZ,eb]at w;exact absurd w hb0
   ·rw[aZ,eb]at z;exact⟨w,z⟩
  obtain⟨rfl,s,ab,rfl⟩:=hy;simp only[Aa,I,Ac,aD,aA,Alh];refine .ret ⟨(Ext.to (C.trans (L.trans O))).trans (c4.trans c5),aa,.inr ⟨a,b,x,y,r,s,not_false,rfl,A,F,G,B,Y,ab,rfl,P5,Z5⟩⟩
end
end
def Na(st:Nat):Int:=if st=4 then 32 else if st=3 then 30 else 0
theorem Anv{z q:Nat}{size:Int}{Z:Zn}(f:Gh h z q size Z):Er K (.ptr z 0) h=some (I Z.st,h):=by
 obtain⟨s,g,_⟩:=f.Aj;simp only[Er,Aa,C8 g rfl]
theorem Adb{z q:Nat}{size:Int}{Z:Zn}(j:Gh h z q size Z):Ef K (.ptr z 0) h=some (I (Na Z.st),h):=by
 obtain⟨s,g,_⟩:=j.Aj;simp only[Ef,Aa,C8 g rfl,I,Ac];unfold Na;by_cases h4:Z.st=4
 ·have:decide ((Z.st:Int)=4)=true:=by simp[h4]
  rw[this,aG h4];simp only[Aa]
 ·have a:decide ((Z.st:Int)=4)=false:=by simp;omega
  rw[a,aF h4];simp only[Aa,Ac];by_cases f:Z.st=3
  ·have:decide ((Z.st:Int)=3)=true:=by simp[f]
   rw[this,aG f];simp only[Aa]
  ·have b:decide ((Z.st:Int)=3)=false:=by simp;omega
   rw[b,aF f];simp only[Aa,Ac,Pj]
theorem Gh.ext{z q:Nat}{size:Int}{Z:Zn}(d:Gh h z q size Z)(g:∀i o,h.get i=some o->h'.get i=some o):Gh h' z q size Z:=by
 obtain⟨s,a,b⟩:=d.Aj;exact⟨⟨s,g _ _ a,b.frame fun f=>by rw[g _ _ (b.block f),b.block f]⟩,d.wf⟩
def Zn.app(Z:Zn)(size:Nat)(x:List EV):Zn:=⟨Z.l++[x],Z.safe,if Z.l.length+1=size then 2 else 1,Z.fin⟩
theorem A4n{z q size:Nat}{Z:Zn}(zz:Gh h z q size Z)(hb:HB h)(a0:Z.st<2)(O:Z.l.length<=64){x:List EV}(W:x.length=64):
 Ok (Eh K (.ptr z 0) (.agg x) h) fun v h'=>v=.tuple [I Z.l.length,I 0]/\(∃q',Gh h' z q' size (Z.app size x)/\h.next<=q')/\Av (fun i=>i=z\/(0<Z.l.length/\i=q)) h h'/\HB h':=by
 obtain⟨s,g,r⟩:=zz.Aj;simp only[Eh,Aa];obtain⟨X,e_,Y,g3,n1⟩:=nW h (.cells x 30);rw[e_];have j:=Y.hb hb;have z1:Gh X z q size Z:=zz.ext fun i o g=>Y.at hb g
 have g1:=Y.at hb g;have r1:Cs X s q 30 64 Z.l.length Z.l.flatten:=r.frame fun O=>by rw[Y.at hb (r.block O),r.block O]
 rw[Adb z1,As];have hf:Na Z.st=0:=by unfold Na;rw[aF (by omega),aF (by omega)]
 rw[hf];have h2:¬(Z.st:Int)=2:=by omega
 simp only[Ac,I,aD,aA,Aa,J3,C8 g1 rfl,h2,Pn];have lz:=j _ _ g1;have l3:=j _ _ g3;simp only[Aa,Aw,Cv lz,Cv l3,C8 g1 rfl,Db g3 rfl,Ai W];rw[Afr (z:=List.replicate 64 (.int .u8 0)) rfl (by simp) (by exact W) (by omega),As];obtain⟨f,e_,x2,gx,n2⟩:=nW X (.cells (EV.cells (.agg x)) 30);rw[e_];have C:=x2.hb j;have g2:=x2.at j g1;have r2:Cs f.lift s q 30 64 Z.l.length Z.l.flatten:=(r1.frame (h':=f) fun O=>by rw[x2.at j (r1.block O),r1.block O]).frame fun _=>Ci _ _
 obtain⟨h3,e3,r3,n3,c3⟩:=Aeo (x:=.slice X.next 0 1 1 false) (n:=1) r2 rfl (by omega) (by omega) (by omega) (Ac3 (b:=X.next) (by rw[Ci];exact gx) W) (by rw[W]);refine Ok.bC (S:=fun i=>0<Z.l.length/\i=q) (P:=fun v h'=>v=.slice f.lift.next 0 (Z.l.length+1) (Z.l.length+1) true/\h'=h3) ⟨_,_,e3,rfl,rfl⟩ (fun _ _ p=>by rw[p.2];exact c3) ?_;rintro _ _ h4 s' ⟨rfl,rfl⟩ sm x4 al;have ab:=x4.hb C;rw[Ao7]at r3 n3;rw[Ao7];have ao:¬(0<Z.l.length/\z=q):=fun y=>by
  have:=r1.block y.1;exact Bb g1 this (by simp) y.2
 have g4:h4.get z=some (.cells [s,I size,I Z.safe,I Z.st,.bool Z.fin] 202):=Av.at x4 C g2 ao;have r4:Cs h4 (.slice f.next 0 (Z.l.length+1) (Z.l.length+1) true) f.next 30 64 (Z.l.length+1) (Z.l.flatten++x):=r3.frame fun _=>sm.get _
 have A:z<h4.next:=ab _ _ g4
 try simp only[Aa]
 rw[Lf (by rcases al with rfl|⟨w,rfl,_⟩<;>kernel_rfl)];refine Ok.st1 g4 rfl rfl (by show 0<5;decide) ?_;refine Ok.st1 (Af _ _ _) rfl rfl (by show 3<5;decide) ?_;simp only[List.set,Aa];have E:f.next≠z:=by have:=C _ _ g2;omega
 have F:z<((h4.put z (.cells [EV.slice f.next 0 (Z.l.length+1) (Z.l.length+1) true,I size,I Z.safe,I Z.st,.bool Z.fin] 202)).put z (.cells [EV.slice f.next 0 (Z.l.length+1) (Z.l.length+1) true,I size,I Z.safe,.int .i64 1,.bool Z.fin] 202)).next:=A
 have hq:h.next<=f.next:=by omega
 have r5:∀o1 B,Cs ((h4.put z o1).put z B) (.slice f.next 0 (Z.l.length+1) (Z.l.length+1) true) f.next 30 64 (Z.l.length+1) (Z.l.flatten++x):=fun o1 B=>r4.frame fun _=>by rw[Ag _ (cV E),Ag _ (cV E)]
 have ch:∀o1 B,Av (fun i=>i=z\/(0<Z.l.length/\i=q)) h ((h4.put z o1).put z B):=fun o1 B=>((((Ext.to (Y.trans x2)).trans (x4.mono fun i hi=>.inr hi)).Ar (.inl (.inl rfl)) A _).Ar (.inl (.inl rfl)) A _)
 have aq:∀o1 B,HB ((h4.put z o1).put z B):=fun o1 B=>(ab.put A _).put A _
 have gz:((h4.put z (.cells [EV.slice f.next 0 (Z.l.length+1) (Z.l.length+1) true,I size,I Z.safe,I Z.st,.bool Z.fin] 202)).put z (.cells [EV.slice f.next 0 (Z.l.length+1) (Z.l.length+1) true,I size,I Z.safe,.int .i64 1,.bool Z.fin] 202)).get z=some (.cells [EV.slice f.next 0 (Z.l.length+1) (Z.l.length+1) true,I size,I Z.safe,.int .i64 1,.bool Z.fin] 202):=Af _ _ _;have G:=r5 (.cells [EV.slice f.next 0 (Z.l.length+1) (Z.l.length+1) true,I size,I Z.safe,I Z.st,.bool Z.fin] 202) (.cells [EV.slice f.next 0 (Z.l.length+1) (Z.l.length+1) true,I size,I Z.safe,.int .i64 1,.bool Z.fin] 202);have J:=ch (.cells [EV.slice f.next 0 (Z.l.length+1) (Z.l.length+1) true,I size,I Z.safe,I Z.st,.bool Z.fin] 202) (.cells [EV.slice f.next 0 (Z.l.length+1) (Z.l.length+1) true,I size,I Z.safe,.int .i64 1,.bool Z.fin] 202);have L:=aq (.cells [EV.slice f.next 0 (Z.l.length+1) (Z.l.length+1) true,I size,I Z.safe,I Z.st,.bool Z.fin] 202) (.cells [EV.slice f.next 0 (Z.l.length+1) (Z.l.length+1) true,I size,I Z.safe,.int .i64 1,.bool Z.fin] 202);generalize (h4.put z (.cells [EV.slice f.next 0 (Z.l.length+1) (Z.l.length+1) true,I size,I Z.safe,I Z.st,.bool Z.fin] 202)).put z (.cells [EV.slice f.next 0 (Z.l.length+1) (Z.l.length+1) true,I size,I Z.safe,.int .i64 1,.bool Z.fin] 202)=h5 at gz G J L F⊢;simp only[C8 gz rfl,Aa,I,Ac];have fin:∀(st:Nat) (U:Ab),st=(Z.app size x).st->U.get z=some (.cells [EV.slice f.next 0 (Z.l.length+1) (Z.l.length+1) true,I size,I Z.safe,I st,.bool Z.fin] 202)->Cs U (.slice f.next 0 (Z.l.length+1) (Z.l.length+1) true) f.next 30 64 (Z.l.length+1) (Z.l.flatten++x)->Av (fun i=>i=z\/(0<Z.l.length/\i=q)) h U->HB U ->
  Ok (Ju K (.ptr z 0) U) fun v h'=>v=.tuple [I Z.l.length,I 0]/\(∃q',Gh h' z q' size (Z.app size x)/\h.next<=q')/\Av (fun i=>i=z\/(0<Z.l.length/\i=q)) h h'/\HB h':=by
  rintro st U rfl g6 r6 c6 au;simp only[Ju,Aa,C8 g6 rfl,I,Ac];rw[Cj,show((Z.l.length+1:Nat):Int)-1=(Z.l.length:Int) by omega];refine .ret ⟨rfl,⟨f.next,⟨⟨_,g6,?_⟩,fun y hy=>by
   rcases bO.1 hy with hy|hy
   ·exact zz.wf y hy
   ·rw[aO.1 hy];exact W⟩,hq⟩,c6,au⟩
  have e1:(Z.app size x).l.length=Z.l.length+1:=by simp[Zn.app]
  have e2:(Z.app size x).l.flatten=Z.l.flatten++x:=by simp[Zn.app]
  rw[e1,e2];exact r6
 by_cases hs:Z.l.length+1=size
 ·have:((Z.l.length+1:Nat):Int)=(size:Int):=by omega
  simp only[this,aB,Aa];refine Ok.st1 gz rfl rfl (by show 3<5;decide) ?_;refine fin 2 _ (by simp[Zn.app,hs]) (Af _ _ _) (G.frame fun _=>Ag _ (cV E)) (J.Ar (.inl (.inl rfl)) F _) (L.put F _)
 ·have:¬((Z.l.length+1:Nat):Int)=(size:Int):=by omega
  simp only[this,aA,Aa];exact fin 1 _ (by simp[Zn.app,hs]) gz G J L
theorem A4c{z q:Nat}{size:Int}{Z:Zn}(A:Gh h z q size Z)(hb:HB h)(B:2<=Z.st)(h4:Z.st<=4)(x:List EV):
 Ok (Eh K (.ptr z 0) (.agg x) h) fun v h'=>v=.tuple [I 0,I (if Z.st=2 then 17 else Na Z.st)]/\Ext h h':=by
 simp only[Eh,Aa];obtain⟨C,E,f,_,_⟩:=nW h (.cells x 30);rw[E];have z1:Gh C z q size Z:=A.ext fun i o g=>f.at hb g
 rw[Adb z1,As];obtain⟨s,g,_⟩:=z1.Aj;by_cases h2:Z.st=2
 ·have j:Na Z.st=0:=by unfold Na;rw[aF (by omega),aF (by omega)]
  have y:(Z.st:Int)=2:=by omega
  rw[j];simp only[Ac,I,aD,aA,Aa,J3,C8 g rfl,y,aB,h2,bM];exact .ret ⟨rfl,f⟩
 ·have j:¬Na Z.st=0:=by
   unfold Na;split
   ·decide
   ·split
    ·decide
    ·omega
  simp only[Ac,I,j,aN,aB,Aa,h2,bD];exact .ret ⟨rfl,f⟩
theorem Gg{l:List EV}(f:h.get i=some (.cells l t))(hs:TT.size t=some n)(j:TT.agg t=some true)(y:l.length=n):Ji TT [.c (.ptr i 0) t,.v v] h=some (.tuple [.agg l,v],h):=by
 have A:K0 h i 0 n=some l:=by
  unfold K0;rw[f];simp only;rw[<-Aly];exact Ai y
 unfold Ji;simp only[A22,hs,A,j]
theorem A26:TT.size 30=some 64/\TT.agg 30=some true:=⟨by kernel_rfl,by kernel_rfl⟩
def Z2:List EV:=List.replicate 64 (.int .u8 0)
theorem Nc:Z2.length=64:=by simp[Z2]
theorem Bnn:∀(l:List (List EV)) (j:Nat),(∀x∈l,x.length=64)->j<l.length->∃x,l[j]? = some x/\x.length=64/\Oy l.flatten (j*64) 64=some x:=by
 intro l;induction l with
 | nil=>intro j _ hj;cases hj
 | cons y l B=>
  intro j hw hj;have F:=hw y (aX ..);cases j with
  | zero=>
   refine⟨y,rfl,F,?_⟩;rw[cC,Fw (by simp[F]),gA,dC,fD (by omega),bR (by omega)]
  | succ j=>
   obtain⟨x,e1,e2,e3⟩:=B j (fun x f=>hw x (aT _ f)) (by simpa using hj);refine⟨x,by simpa using e1,e2,?_⟩;have G:j*64+64<=l.flatten.length:=by
    rcases cZ l.flatten.length (j*64+64)with C|E
    ·rw[Aly]at e3
     exfalso;have:(l.flatten.drop (j*64)).length<64:=by rw[bW];omega
     revert e3;have hlen:l.flatten.length=l.length*64:=by
      clear B hj e1 C this;have A:∀x∈l,x.length=64:=fun x f=>hw x (aT _ f)
      clear hw;induction l with
      | nil=>rfl
      | cons a l B=>rw[cC,aH,B fun x f=>A x (aT _ f),A a (aX ..),bH];omega
     have:j+1<=l.length:=by simp at hj;omega
     omega
    ·exact E
   rw[Fw G]at e3;rw[cC,Fw (by rw[aH];omega),show(j+1)*64=y.length+j*64 by omega,List.drop_append,<-e3,dX (by omega),dS];simp
def Ak4(Z:Zn)(off:Int):List EV × Int:=if Z.st=4 then(Z2,32)else if 0<=off/\off<Z.l.length then((Z.l[off.toNat]?).getD Z2,0)else(Z2,31)
theorem Bl7 {Z:Zn}(wf:∀x∈Z.l,x.length=64)(off:Int):(Ak4 Z off).1.length=64:=by
 unfold Ak4;split
 ·exact Nc
 ·split
  ·rename_i hc
   have:off.toNat<Z.l.length:=by omega
   rw[aC this];exact wf _ (av _)
  ·exact Nc
theorem Ba4{z q:Nat}{size:Int}{Z:Zn}(G:Gh h z q size Z)(hb:HB h)(off:Int):
 Ok (Jf K (.ptr z 0) (I off) h) fun v h'=>v=.tuple [.agg (Ak4 Z off).1,I (Ak4 Z off).2]/\Ext h h':=by
 simp only[Jf,Aa];have y:Ext h ((h.new (.cells (List.replicate 64 (.int .u8 0)) 30)).new (.cells (List.replicate 64 (.int .u8 0)) 30)):=(Av.new _ _).Ds _;have g4:((h.new (.cells (List.replicate 64 (.int .u8 0)) 30)).new (.cells (List.replicate 64 (.int .u8 0)) 30)).get h.next=some (.cells Z2 30):=by
  rw[Az _ (aL _)];exact Ad _ _
 have f:((h.new (.cells (List.replicate 64 (.int .u8 0)) 30)).new (.cells (List.replicate 64 (.int .u8 0)) 30)).get (h.new (.cells (List.replicate 64 (.int .u8 0)) 30)).next=some (.cells Z2 30):=Ad _ _
 generalize L:(h.new (.cells (List.replicate 64 (.int .u8 0)) 30)).next=U at f⊢
 generalize (h.new (.cells (List.replicate 64 (.int .u8 0)) 30)).new (.cells (List.replicate 64 (.int .u8 0)) 30)=A at y g4 f⊢;have B:=y.hb hb;have z1:Gh A z q size Z:=G.ext fun i o g=>y.at hb g
 obtain⟨s,g,r⟩:=z1.Aj;have O:=B _ _ g4;have fin:∀(l:List EV) (e:Int),l.length=64->(l,e)=Ak4 Z off->Ok (stE 64 (.ptr h.next 0) (.agg l) A fun h=>Ji TT [.c (.ptr h.next 0) 30,.v (I e)] h) (fun v h'=>True)->True:=fun _ _ _ _ _=>trivial
 clear fin;have fin:∀(l:List EV) (e:Int) (C:Ab->R),(∀h',C h'=Ji TT [.c (.ptr h.next 0) 30,.v (I e)] h')->l.length=64->(l,e)=Ak4 Z off->Ok (stE 64 (.ptr h.next 0) (.agg l) A C) fun v h'=>v=.tuple [.agg (Ak4 Z off).1,I (Ak4 Z off).2]/\Ext h h':=by
  intro l e C E F he;refine Ok.st l g4 rfl (by rw[show EV.cells (.agg l)=l from rfl,Bc,F]) (Bm (by rw[Nc];exact F.symm)) ?_;rw[E,Gg (Af _ _ _) A26.1 A26.2 F,<-he];exact .ret ⟨rfl,y.Ar (.inr (aE _)) O _⟩
 simp only[C8 g rfl,Aa,I,Ac,Db f rfl,Ai Nc];by_cases h4:Z.st=4
 ·rw[show decide ((Z.st:Int)=4)=true by simp[h4]]
  simp only[Aa];exact fin Z2 32 _ (fun _=>rfl) Nc (by unfold Ak4;rw[aG h4])
 ·rw[show decide ((Z.st:Int)=4)=false by simp;omega]
  simp only[Aa];by_cases h0:off<0
  ·simp only[h0,aB,Aa,K3,Db f rfl,Ai Nc]
   exact fin Z2 31 _ (fun _=>rfl) Nc (by unfold Ak4;rw[aF h4,aF (by omega)])
  ·simp only[h0,aA,Aa,r.F3,Ac,K3]
   by_cases J:(Z.l.length:Int)<=off
   ·simp only[J,aB,Aa,Db f rfl,Ai Nc]
    exact fin Z2 31 _ (fun _=>rfl) Nc (by unfold Ak4;rw[aF h4,aF (by omega)])
   ·simp only[J,aA,Aa,Rv,C8 g rfl]
    have hj:off.toNat<Z.l.length:=by omega
    obtain⟨j,rfl⟩:∃j:Nat,off=j:=⟨off.toNat,by omega⟩;rw[show(j:Int).toNat=j from rfl]at hj;obtain⟨x,f1,f2,f3⟩:=Bnn Z.l j G.wf hj;rw[r.ix hj];simp only[Db (r.block (by omega)) rfl,f3,Aa];refine fin x 0 _ (fun _=>rfl) f2 ?_;unfold Ak4;rw[aF h4,aG (by omega),show(j:Int).toNat=j from rfl,f1];rfl
theorem Gh.put{z q:Nat}{size:Int}{Z:Zn}(f:Gh h z q size Z){s:EV}(g:h.get z=some (.cells [s,I size,I Z.safe,I Z.st,.bool Z.fin] 202))(safe st:Nat)(fin:Bool):
 Gh (h.put z (.cells [s,I size,I safe,I st,.bool fin] 202)) z q size ⟨Z.l,safe,st,fin⟩:=by
 obtain⟨s',j,r⟩:=f.Aj;rw[g]at j;have:s=s':=by
  have:=gF j;injection this with a _;exact(List.cons.inj a).1
 subst this;refine⟨⟨s,Af _ _ _,r.frame fun y=>Ag _ ?_⟩,f.wf⟩;exact Bb g (r.block y) (by simp)
def Zn.flush(Z:Zn):Zn:={ Z with safe:=Z.l.length }
theorem A6w{z q:Nat}{size:Int}{Z:Zn}(f:Gh h z q size Z)(hb:HB h):
 Ok (H7 K (.ptr z 0) h) fun v h'=>Gh h' z q size Z.flush/\Av (fun i=>i=z) h h'/\HB h':=by
 obtain⟨s,g,r⟩:=f.Aj;have j:=hb _ _ g;simp only[H7,Aa,C8 g rfl,r.F3];refine Ok.st1 g rfl rfl (by show 2<5;decide) ?_;refine .ret ⟨?_,(Av.refl (S:=fun i=>i=z) h).Ar (.inl rfl) j _,hb.put j _⟩;exact f.put g Z.l.length Z.st Z.fin
def Zn.finish(Z:Zn):Zn:={ Z with st:=2,fin:=true }
theorem A32{z q:Nat}{size:Int}{Z:Zn}(f:Gh h z q size Z)(hb:HB h):
 Ok (Hu K (.ptr z 0) h) fun v h'=>v=I (Na Z.st)/\Gh h' z q size (if Na Z.st=0 then Z.finish else Z)/\Av (fun i=>i=z) h h'/\HB h':=by
 obtain⟨s,g,r⟩:=f.Aj;have j:=hb _ _ g;simp only[Hu,Adb f,Aa,I,Ac];by_cases y:Na Z.st=0
 ·simp only[y,aD,aA,Aa,bM,Pu]
  refine Ok.st1 g rfl rfl (by show 3<5;decide) ?_;refine Ok.st1 (Af _ _ _) rfl rfl (by show 4<5;decide) ?_;refine .ret ⟨rfl,?_,((Av.refl (S:=fun i=>i=z) h).Ar (.inl rfl) j _).Ar (.inl rfl) j _,(hb.put j _).put j _⟩;exact(f.put g Z.safe 2 Z.fin).put (Af _ _ _) Z.safe 2 true
 ·simp only[y,aN,aB,Aa,bD]
  exact .ret ⟨rfl,f,Av.refl _,hb⟩
def Zn.fail(Z:Zn)(st:Nat):Zn:=if st=4\/st=3/\¬Z.st=4 then { Z with st:=st }else Z
theorem Bad{z q:Nat}{size:Int}{Z:Zn}(f:Gh h z q size Z)(hb:HB h)(st:Nat):
 Ok (Jb K (.ptr z 0) (I st) h) fun v h'=>Gh h' z q size (Z.fail st)/\Av (fun i=>i=z) h h'/\HB h':=by
 obtain⟨s,g,r⟩:=f.Aj;have j:=hb _ _ g;have yes:(st=4\/st=3/\¬Z.st=4)->Ok (stE 1 (.ptr z 3) (I st) h fun h=>some (.tuple [],h)) fun v h'=>Gh h' z q size (Z.fail st)/\Av (fun i=>i=z) h h'/\HB h':=by
  intro hc;refine Ok.st1 g rfl rfl (by show 3<5;decide) ?_;refine .ret ⟨?_,(Av.refl (S:=fun i=>i=z) h).Ar (.inl rfl) j _,hb.put j _⟩;unfold Zn.fail;rw[aG hc];exact f.put g Z.safe st Z.fin
 have no:¬(st=4\/st=3/\¬Z.st=4)->Ok (some (.tuple [],h)) fun v h'=>Gh h' z q size (Z.fail st)/\Av (fun i=>i=z) h h'/\HB h':=by
  intro hc;refine .ret ⟨?_,Av.refl _,hb⟩;unfold Zn.fail;rw[aF hc];exact f
 simp only[Jb,I,Ac,Aa];by_cases a:st=4
 ·rw[show decide ((st:Int)=4)=true by simp[a]]
  simp only[Aa,Ac,Hg,Fc,Fj];exact yes (.inl a)
 ·rw[show decide ((st:Int)=4)=false by simp;omega]
  simp only[Aa,Ac];by_cases b:st=3
  ·rw[show decide ((st:Int)=3)=true by simp[b]]
   simp only[Aa,Ac,Hg,C8 g rfl,I];by_cases c:Z.st=4
   ·rw[show decide (¬(Z.st:Int)=4)=false by simp[c]]
    simp only[Aa,Ac,Fc,Fj];exact no (by omega)
   ·rw[show decide (¬(Z.st:Int)=4)=true by simp;omega]
    simp only[Aa,Ac,Fc,Fj];exact yes (.inr ⟨b,c⟩)
  ·rw[show decide ((st:Int)=3)=false by simp;omega]
   simp only[Aa,Ac,Hg,Fc,Fj];exact no (by omega)
theorem Ym{b sz:Nat}{x:EV}{new:List EV}(j:lenOf x=some n)(f:n<=65536)(hc:N9 h sz n x=some new)(hs:new.length=n*sz)(q:Nat):
 Ok (E0 e sz (.slice b 0 0 0 false) x h) fun v h'=>∃q',Cs h' v q' e sz n new/\Ext h h'/\(0<n->h.next<=q'):=by
 rcases dI n with rfl|hp
 ·have:new = []:=cR.1 (by omega)
  subst this;refine⟨.slice b 0 0 0 false,h,?_,q,.empty _ _ _ _ _,Av.refl _,fun y=>by omega⟩;unfold E0;simp only[j,Ia];rfl
 ·obtain⟨h',e1,r,B,c⟩:=Aeo (s:=.slice b 0 0 0 false) (q:=q) (e:=e) (.empty h b q e sz) j hp f (cQ _) hc hs
  refine⟨_,h',e1,h.next,?_,c.mono fun i A=>absurd A.1 (bS _),fun _=>aE _⟩;rw[dS]at r;simpa only[bJ]using r
end Go.Ev
