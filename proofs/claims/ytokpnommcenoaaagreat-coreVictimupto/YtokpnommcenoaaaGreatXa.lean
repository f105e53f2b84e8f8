import Derived.Test.YtokpnommcenoaaaGreatWa
import Derived.Test.YtokpnommcenoaaaGreatDa
import Derived.Test.YtokpnommcenoaaaGreatDc
set_option linter.all false
namespace Go.Ev
open Go.Proofs
set_option maxRecDepth 100000
variable {a b x op cnt zones:Int}{k:Ab->List Nat->R}{ex:Nat->Ab->List Nat->R}{S:Nat->Prop}{h h' h0:Ab}{D K V d e i n t b2 b3 b4 d0 l0 ql zl cap:Nat}{o:Dz}{T:Ih}{down:Bool}{ps:Nat->List Int}{v Gt happened:EV}{marks:List (EV × EV)}{xs:List Int}{tm tm1:Ax}{disp:Nat->Option FT}
section
noncomputable def As(T:Ih)(g n i:Nat)(tm:Ax)(st:LoopState)(p:Option Code)(d:Nat):Dz:=.loop st p g n tm (Dt T g i).2.1 (Dt T g i).2.2.1 (Dt T g i).2.2.2 d
noncomputable def Bq(T:Ih)(g n i:Nat)(tm:Ax)(h:Ab):Ab:=(h.new (.deferred true)).new (As T g n i tm .ready none h.next)
section
variable{g l:Nat}{st:LoopState}{p:Option Code}{Q:EV->Ab->Prop}
theorem Gc:(Bq T g n i tm h).get (h.next+1)=some (As T g n i tm .ready none h.next):=Ac _ _
theorem G3:(Bq T g n i tm h).get h.next=some (.deferred true):=by
 unfold Bq;rw[Ay _ (aE _)];exact Ac _ _
theorem Gh:Ext h (Bq T g n i tm h):=(Ar.new _ _).Di _
theorem Ayj:(Bq T g n i tm h).next=h.next+2:=rfl
theorem Qo {kk:Ab->R}(f:h.get l=some (As T g n i tm .ready p d)):Ff l h kk=kk (h.put l (As T g n i tm .busy p d)):=by
 unfold Ff;rw[f];rfl
theorem Js {b:Bool}{st':LoopState}{j:Option Code}(f:h.get l=some (As T g n i tm st p d)):Su l b st' j h=some (.bool b,h.put l (As T g n i tm st' j d)):=by
 unfold Su;rw[f];rfl
theorem Ok.range {c:Ai}{q:Nat}{f:List EV}{ds:List Nat}{ret:Ab->List Nat->R}
 (hc:Ok (c q (.Sy (h.next+1)::f) (Bq T g n i tm h)) fun _ h'=>
  (h'.get (h.next+1)=some (As T g n i tm .ready none h.next)/\Ok (k (h'.put (h.next+1) (As T g n i tm .exhausted none h.next)) (h.next::ds)) Q) \/
  (h'.get (h.next+1)=some (As T g n i tm .done (some .ret) h.next)/\Ok (ret (h'.put (h.next+1) (As T g n i tm .exhausted (some .ret) h.next)) (h.next::ds)) Q)) :
 Ok (Q2 c T g n i (.func q [] f) tm h ds k ex ret) Q:=by
 obtain⟨v,h',e,j⟩:=hc;have:Q2 c T g n i (.func q [] f) tm h ds k ex ret=A48 (h.next+1) (c q (.Sy (h.next+1)::f) (Bq T g n i tm h)) (fun h'=>k h' (h.next::ds)) (fun id h'=>ex id h' (h.next::ds)) (fun h'=>ret h' (h.next::ds)):=rfl;rw[this,e];unfold A48;simp only;rcases j with⟨a,b⟩|⟨a,b⟩
 ·rw[a];exact b
 ·rw[a];exact b
theorem Ok.unwind:∀{ds:List Nat} {h:Ab} {k:Ab->R},ds.Nodup->(∀d∈ds,h.get d=some (.deferred true))->HB h->(∀h',Ar (fun i=>i∈ds) h h'->h'.next=h.next->Ok (k h') Q)->Ok (Fp ds h k) Q
 | [],h,k,_,_,_,j=>j h (Ar.refl _) rfl
 | d::ds,h,k,hn,hd,hb,j=>by
  obtain⟨A,B⟩:=cQ.1 hn;have f:=hd d aV;have ld:=hb _ _ f;have e:Fp (d::ds) h k=Fp ds (h.put d (.deferred false)) k:=by
   show(match h.get d with|some (.deferred true)=>Fp ds (h.put d (.deferred false)) k|_=>none)=_;rw[f]
  rw[e];refine Ok.unwind B (fun x C=>?_) (hb.put ld _) fun h' c n=>j h' ?_ (by rw[n];rfl)
  ·rw[Af _ (fun y=>A (by rw[y];exact C))];exact hd x (aT _ C)
  ·exact((Ar.refl h).Ak (S:=fun i=>i∈d::ds) (.inl aV) ld _).trans (c.mono fun i E=>aT _ E)
end
structure Kp(S:Nat->Prop)(h0 h:Ab):Prop where
 chg:Ar S h0 h
 same:∀i,i<h0.next->h.get i=h0.get i
theorem Kp.refl(h:Ab):Kp S h h:=⟨Ar.refl _,fun _ _=>rfl⟩
theorem Ext.kp(x:Ext h0 h):Kp S h0 h:=⟨Ext.to x,fun i f=>x.get i f id⟩
theorem Kp.trans{a b c:Ab}(x:Kp S a b)(y:Kp S b c):Kp S a c:=⟨x.chg.trans y.chg,fun i f=>by rw[y.same i (aL f x.chg.next),x.same i f]⟩
theorem Kp.Ak(x:Kp S h0 h)(f:h0.next<=i)(hn:i<h.next)(o:Dz):Kp S h0 (h.put i o):=
 ⟨x.chg.Ak (.inr f) hn o,fun j hj=>by rw[Af _ (by omega)];exact x.same j hj⟩
theorem Kp.at(x:Kp S h0 h)(hb:HB h0)(g:h0.get i=some o):h.get i=some o:=by rw[x.same i (hb _ _ g)];exact g
theorem Kp.A37 {T:Nat->Prop}{a b c:Ab}(x:Kp S a b)(y:Ar T b c)(st:∀i,T i->a.next<=i):Kp S a c:=
 ⟨x.chg.then y fun i f A=>by have:=st i f;omega,fun i f=>by rw[y.get i (aL f x.chg.next) fun j=>by have:=st i j;omega,x.same i f]⟩
end
section
structure Gm where
 D:Int
 Z:Int
 S:Int
 B:Int
 P:Int
 O:Int
def gL(g:Gm):List EV:=[I g.D,I g.Z,I g.S,I g.B,I g.P,I g.O]
def gV(g:Gm):EV:=.agg (gL g)
def Gm.parts(g:Gm):Int:=1+(g.B+1)/2
def Gm.Alk(g:Gm):Int:=g.D*g.P+4
def Gm.least(g:Gm):Int:=min ((g.D-1)*(g.Z-g.P-2)-g.Alk+1) (g.D*(g.Z-g.P-2)-2*g.Alk+1)
def Gm.segments(g:Gm):Int:=g.least/2-1-g.D*g.P
def wi(n a b:Int):Bool:=decide (a<=n)&&decide (n<=b)
theorem N2 {n:Int}:wi n a b=true↔a<=n/\n<=b:=by simp[wi]
def smB(g:Gm):Bool:=wi g.D 3 8&&wi g.Z 1 64&&wi g.S 4 64&&wi g.B 1 256&&wi g.P 0 4&&wi g.O 4 64
def rtB(g:Gm):Bool:=smB g&&(decide (g.parts<=g.S)&&decide (2*g.B<=g.S*g.segments))
structure Sm(g:Gm):Prop where
 d0:3<=g.D
 d1:g.D<=8
 z0:1<=g.Z
 z1:g.Z<=64
 s0:4<=g.S
 s1:g.S<=64
 b0:1<=g.B
 b1:g.B<=256
 p0:0<=g.P
 p1:g.P<=4
 o0:4<=g.O
 o1:g.O<=64
theorem U1 {g:Gm}(h:smB g=true):Sm g:=by
 simp only[smB,bI,N2]at h;exact⟨h.1.1.1.1.1.1,h.1.1.1.1.1.2,h.1.1.1.1.2.1,h.1.1.1.1.2.2,h.1.1.1.2.1,h.1.1.1.2.2,h.1.1.2.1,h.1.1.2.2,h.1.2.1,h.1.2.2,h.2.1,h.2.2⟩
theorem Zf {g:Gm}(h:rtB g=true):Sm g:=U1 (by unfold rtB at h;exact((bI _ _).mp h).1)
theorem N1 {A B:Int}(h0:0<=a)(f:a<=A)(h2:0<=b)(j:b<=B):0<=a*b/\a*b<=A*B:=
 ⟨Int.mul_nonneg h0 h2,Int.mul_le_mul f j h2 (Int.le_trans h0 f)⟩
theorem Axi {A B:Int}(h0:0<=a)(f:a<=A)(h2 : -B<=b)(j:b<=B)(y:0<=B): -(A*B)<=a*b/\a*b<=A*B:=by
 have e1:a*b<=a*B:=dX j h0;have e2:a*B<=A*B:=Int.mul_le_mul_of_nonneg_right f y;have e3:a*(-B)<=a*b:=dX h2 h0;rw[Int.mul_neg]at e3;omega
theorem Bqb{k:EV->R}:Af0 (bin T .shr t) (.int .i64 a) (.int .u64 1) k=k (.int .i64 (a/2)):=by
 cases a with
 | ofNat a=>
  show k (.int .i64 (.ofNat (Nat.shiftRight a 1)))=_;rw[show Nat.shiftRight a 1=a/2 from Nat.shiftRight_succ a 0];rfl
 | negSucc a=>
  show k (.int .i64 ((Int.negSucc a).fdiv (.ofNat 2)))=_;rw[eW _ (by decide)];rfl
theorem Ble(a b:Int):ltB a b=decide (a<b):=by rw[<-A8d,Aug]
theorem min2{j:Array TypeId}:builtin T .min j [.int .i64 a,.int .i64 b] h=some (.int .i64 (min a b),h):=by
 simp only[builtin,Aby,Bl,Ble];rw[Bll];by_cases f:b<a
 ·rw[aN f,Int.min_eq_right (by omega)]
 ·rw[aK f,Int.min_eq_left (by omega)]
theorem Wn(n a b:Int)(h:Ab):Jw K (I n) (I a) (I b) h=some (.bool (wi n a b),h):=by
 simp only[Jw,Anu,I,Ad,Bnj];by_cases f:a<=n
 ·simp only[f,aB,Al,dz,Azk,wi,aZ]
 ·simp only[f,aA,Bl,dz,Azk,wi,aX]
theorem Azx(g:Gm)(h:Ab):Ut K (gV g) h=some (.bool (smB g),h.new (.cells (gL g) 23)):=by
 simp only[Ut,gV,Aa];have f:(h.new (.cells (gL g) 23)).get h.next=some (.cells (gL g) 23):=Ac _ _
 generalize h.new (.cells (gL g) 23)=j at f⊢;have w:=fun n a b=>Wn (K:=K) n a b j
 simp only[I]at w;simp only[Aa,Cy f rfl,gL,I,w,Ad];unfold smB;cases wi g.D 3 8 with
 | false=>simp only[Aa,Ad,He,Hi,Hh,Hd,Hf,aX]
 | true=>
 simp only[Aa,Cy f rfl,gL,I,w,Ad,He];cases wi g.Z 1 64 with
 | false=>simp only[Aa,Ad,He,Hi,Hh,Hd,Hf,aX,cn]
 | true=>
 simp only[Aa,Cy f rfl,gL,I,w,Ad,Hi];cases wi g.S 4 64 with
 | false=>simp only[Aa,Ad,He,Hi,Hh,Hd,Hf,aX,cn]
 | true=>
 simp only[Aa,Cy f rfl,gL,I,w,Ad,Hh];cases wi g.B 1 256 with
 | false=>simp only[Aa,Ad,He,Hi,Hh,Hd,Hf,aX,cn]
 | true=>
 simp only[Aa,Cy f rfl,gL,I,w,Ad,Hd];cases wi g.P 0 4 with
 | false=>simp only[Aa,Ad,He,Hi,Hh,Hd,Hf,aX,cn]
 | true=>
 simp only[Aa,Cy f rfl,gL,I,w,Ad,Hf,aZ]
theorem Aqq {g:Gm}(s:Sm g)(h:Ab):Qe K (gV g) h=some (I g.parts,h.new (.cells (gL g) 23)):=by
 have:=s.b0;have:=s.b1;simp only[Qe,gV,Aa];have f:(h.new (.cells (gL g) 23)).get h.next=some (.cells (gL g) 23):=Ac _ _
 generalize h.new (.cells (gL g) 23)=j at f⊢;simp only[Aa,Cy f rfl,gL,I,Ad];rw[Cn (n:=g.B+2) (by omega) (by omega),Cn (n:=g.B+2-1) (by omega) (by omega),Bh6 (by omega) (by omega) (by omega)];simp only[Ad];rw[Cn (by omega) (by omega)];rw[show 1+(g.B+2-1)/2=g.parts by unfold Gm.parts;rw[show g.B+2-1=g.B+1 by omega]]
theorem Amb {g:Gm}(s:Sm g)(h:Ab):Mz K (gV g) h=some (I g.Alk,h.new (.cells (gL g) 23)):=by
 have:=s.d0;have:=s.d1;have:=s.p0;have:=s.p1;obtain⟨j,y⟩:=N1 (a:=g.D) (b:=g.P) (A:=8) (B:=4) (by omega) (by omega) (by omega) (by omega);simp only[Mz,gV,Aa];have f:(h.new (.cells (gL g) 23)).get h.next=some (.cells (gL g) 23):=Ac _ _
 generalize h.new (.cells (gL g) 23)=C at f⊢;simp only[Aa,Cy f rfl,gL,I,Ad];rw[Cn (n:=g.D*g.P) (by omega) (by omega),Cn (by omega) (by omega)];rfl
theorem Lh {g:Gm}(s:Sm g)(h:Ab):Cz K (gV g) h=some (I (g.D*g.Z),h.new (.cells (gL g) 23)):=by
 have:=s.d0;have:=s.d1;have:=s.z0;have:=s.z1;obtain⟨j,y⟩:=N1 (a:=g.D) (b:=g.Z) (A:=8) (B:=64) (by omega) (by omega) (by omega) (by omega);simp only[Cz,gV,Aa];have f:(h.new (.cells (gL g) 23)).get h.next=some (.cells (gL g) 23):=Ac _ _
 generalize h.new (.cells (gL g) 23)=C at f⊢;simp only[Aa,Cy f rfl,gL,I,Ad];rw[Cn (n:=g.D*g.Z) (by omega) (by omega)]
theorem Sm.Bh1 {g:Gm}(s:Sm g):(0<=g.D*g.P/\g.D*g.P<=32)/\(-640<=(g.D-1)*(g.Z-g.P-2)/\(g.D-1)*(g.Z-g.P-2)<=640)/\(-640<=g.D*(g.Z-g.P-2)/\g.D*(g.Z-g.P-2)<=640):=by
 have:=s.d0;have:=s.d1;have:=s.p0;have:=s.p1;have:=s.z0;have:=s.z1;obtain⟨a0,f⟩:=N1 (a:=g.D) (b:=g.P) (A:=8) (B:=4) (by omega) (by omega) (by omega) (by omega);obtain⟨b0,b1⟩:=Axi (a:=g.D-1) (b:=g.Z-g.P-2) (A:=10) (B:=64) (by omega) (by omega) (by omega) (by omega) (by omega);obtain⟨j,c1⟩:=Axi (a:=g.D) (b:=g.Z-g.P-2) (A:=10) (B:=64) (by omega) (by omega) (by omega) (by omega) (by omega);omega
theorem Avn {g:Gm}(s:Sm g)(h:Ab):Ok (Pg K (gV g) h) fun v h'=>v=I g.segments/\Ext h h':=by
 obtain⟨⟨a0,J⟩,⟨b0,b1⟩,L,c1⟩:=s.Bh1;have:=s.d0;have:=s.d1;have:=s.p0;have:=s.p1;have:=s.z0;have:=s.z1;simp only[Pg,gV,Aa];have j:(h.new (.cells (gL g) 23)).get h.next=some (.cells (gL g) 23):=Ac _ _
 have hn:h.next<(h.new (.cells (gL g) 23)).next:=aE _
 have y:Ext h (h.new (.cells (gL g) 23)):=Ar.new _ _;generalize h.new (.cells (gL g) 23)=B at j hn y⊢;simp only[Aa,Aw,Ah hn,Cy j rfl,C8 j rfl,Am (show(gL g).length=6 from rfl),gL,I,Ad];rw[Cn (n:=g.Z-g.P) (by omega) (by omega),Cn (n:=g.Z-g.P-2) (by omega) (by omega)];refine Ok.Ds (by kernel_rfl) (by kernel_rfl) (P:=fun v h2=>v=I g.Alk/\Ext B.lift h2) ⟨_,_,Amb s _,rfl,Ar.new _ _⟩ (fun _ _ p=>p.2) ?_;rintro _ h2 C ⟨rfl,_⟩ _ A;have f:C.get h.next=some (.cells (gL g) 23):=by rw[A.get _ hn id];exact j
 simp only[Aa,Cy f rfl,gL,I,Ad];unfold Gm.Alk;rw[Cn (n:=g.D-1) (by omega) (by omega),Cn (n:=(g.D-1)*(g.Z-g.P-2)) (by omega) (by omega),Cn (n:=(g.D-1)*(g.Z-g.P-2)-(g.D*g.P+4)) (by omega) (by omega),Cn (n:=(g.D-1)*(g.Z-g.P-2)-(g.D*g.P+4)+1) (by omega) (by omega),
  Cn (n:=g.D*(g.Z-g.P-2)) (by omega) (by omega),Cn (n:=2*(g.D*g.P+4)) (by omega) (by omega),Cn (n:=g.D*(g.Z-g.P-2)-2*(g.D*g.P+4)) (by omega) (by omega),Cn (n:=g.D*(g.Z-g.P-2)-2*(g.D*g.P+4)+1) (by omega) (by omega),
  min2,Au,Bqb]
 simp only[Ad,Aa,Cy f rfl,gL,I];have E:g.least=min ((g.D-1)*(g.Z-g.P-2)-(g.D*g.P+4)+1) (g.D*(g.Z-g.P-2)-2*(g.D*g.P+4)+1):=rfl;rw[<-E];have F : -10000<=g.least:=by omega
 have G:g.least<=10000:=by omega
 rw[Cn (n:=g.least/2-1) (by omega) (by omega),Cn (n:=g.D*g.P) (by omega) (by omega),Cn (n:=g.least/2-1-g.D*g.P) (by omega) (by omega)];exact .ret ⟨rfl,y.trans A⟩
end
theorem Bj5 {g:Gm}(s:Sm g): -2000<=g.segments/\g.segments<=2000:=by
 obtain⟨⟨a0,f⟩,⟨b0,b1⟩,j,c1⟩:=s.Bh1;have y:g.least=min ((g.D-1)*(g.Z-g.P-2)-(g.D*g.P+4)+1) (g.D*(g.Z-g.P-2)-2*(g.D*g.P+4)+1):=rfl;have hs:g.segments=g.least/2-1-g.D*g.P:=rfl;omega
theorem Z7(g:Gm)(h:Ab):Ok (Mo K (gV g) h) fun v h'=>v=.bool (rtB g)/\Ext h h':=by
 simp only[Mo,gV,Aa];have y:(h.new (.cells (gL g) 23)).get h.next=some (.cells (gL g) 23):=Ac _ _
 have hn:h.next<(h.new (.cells (gL g) 23)).next:=aE _
 have E:Ext h (h.new (.cells (gL g) 23)):=Ar.new _ _;generalize h.new (.cells (gL g) 23)=L at y hn E⊢;simp only[Aa,Aw,Ah hn,Cy y rfl,C8 y rfl,Am (show(gL g).length=6 from rfl)];refine Ok.Ds (by kernel_rfl) (by kernel_rfl) (P:=fun v h2=>v=.bool (smB g)/\Ext L.lift h2) ⟨_,_,Azx g _,rfl,Ar.new _ _⟩ (fun _ _ p=>p.2) ?_;rintro _ h2 G ⟨rfl,_⟩ _ F;have C:G.get h.next=some (.cells (gL g) 23):=by rw[F.get _ hn id];exact y
 unfold rtB;cases hs:smB g with
 | false=>simp only[Aa,Ad,Pe,Lt,aX];exact .ret ⟨rfl,E.trans F⟩
 | true=>
 have s:=U1 hs;have:=s.b0;have:=s.b1;simp only[Aa,Ad,Aw,Ah hn,Cy C rfl,C8 C rfl,Am (show(gL g).length=6 from rfl),aZ];refine Ok.Ds (by kernel_rfl) (by kernel_rfl) (P:=fun v h4=>v=I g.parts/\Ext G.lift h4) ⟨_,_,Aqq s _,rfl,Ar.new _ _⟩ (fun _ _ p=>p.2) ?_;rintro _ h4 O ⟨rfl,_⟩ _ U;have f:=F.trans U;have j:O.get h.next=some (.cells (gL g) 23):=by rw[f.get _ hn id];exact y
 simp only[Aa,Ad,Aw,Ah hn,Cy j rfl,gL,I,Pe];by_cases J:g.parts<=g.S
 ·simp only[J,aB,Aa,Aw,Ah hn,Cy j rfl,C8 j rfl,Am (show(gL g).length=6 from rfl),gL,I,Ad,aZ]
  refine Ok.Ds (by kernel_rfl) (by kernel_rfl) (Avn s _) (fun _ _ p=>p.2) ?_;rintro _ X Y ⟨rfl,_⟩ _ W;obtain⟨t0,t1⟩:=Bj5 s;have:=s.s0;have:=s.s1;obtain⟨m0,m1⟩:=Axi (a:=g.S) (b:=g.segments) (A:=64) (B:=2000) (by omega) (by omega) (by omega) (by omega) (by omega);simp only[Ad,I,Lt,Aa];rw[Cn (n:=2*g.B) (by omega) (by omega),Cn (n:=g.S*g.segments) (by omega) (by omega)];exact .ret ⟨rfl,E.trans (f.trans W)⟩
 ·simp only[J,aA,Aa,Ad,Lt,aX]
  exact .ret ⟨rfl,E.trans f⟩
theorem Bmc {n:Int}(h0 : -100000<=n)(f:n<=100000)(h:Ab):Oq K (I n) h=some (I (n/2),h):=by
 simp only[Oq,I,Ad,Aa];by_cases hn:n<0
 ·simp only[hn,aB,Aa,Ad]
  rw[Cn (by omega) (by omega),Bh6 (by omega) (by omega) (by omega)];simp only[Bi4];rw[Cn (by omega) (by omega),show 0-(1-n)/2=n/2 by omega]
 ·simp only[hn,aA,Aa,Yf]
  rw[Bh6 (by omega) (by omega) (by omega)]
theorem A6e {g:Gm}(s:Sm g){a:Nat}(j:h.get a=some (.cells (gL g) 114)):∀(m:Nat) (i:Int),0<=i->(g.B-i).toNat<m->i<=g.B+1->i%2=0 ->
 Gq K m (.ptr a 0) (I (1+i/2)) (I i) h=some (I g.parts,h):=by
 have:=s.b0;have:=s.b1;intro m;induction m with
 | zero=>intro i _ hm;omega
 | succ m y=>
  intro i C hm hle A;simp only[Gq,Aa,Ad,Cy j rfl,gL,I];by_cases f:i<g.B
  ·simp only[f,aB,Aa,Ad,Tl,Tn]
   rw[Cn (n:=1+i/2+1) (by omega) (by omega),Cn (n:=i+2) (by omega) (by omega),show 1+i/2+1=1+(i+2)/2 by omega];exact y (i+2) (by omega) (by omega) (by omega) (by omega)
  ·simp only[f,aA,Aa,Tw]
   unfold Gm.parts;rw[show 1+i/2=1+(g.B+1)/2 by omega]
theorem Bdr {g:Gm}(s:Sm g)(hK:1000<K)(h:Ab):Lf K (gV g) h=some (I g.parts,h.new (.cells (gL g) 114)):=by
 have:=s.b0;have:=s.b1;simp only[Lf,gV,Aa];exact A6e s (Ac _ _) K 0 (by omega) (by omega) (by omega) (by omega)
theorem A4o {g:Gm}(s:Sm g)(h:Ab):Ok (Iy K (gV g) h) fun v h'=>v=I g.segments/\Ext h h':=by
 obtain⟨⟨a0,F⟩,⟨b0,b1⟩,G,c1⟩:=s.Bh1;have:=s.d0;have:=s.d1;have:=s.p0;have:=s.p1;have:=s.z0;have:=s.z1;simp only[Iy,gV,Aa];have j:(h.new (.cells (gL g) 114)).get h.next=some (.cells (gL g) 114):=Ac _ _
 have hn:h.next<(h.new (.cells (gL g) 114)).next:=aE _
 have A:Ext h (h.new (.cells (gL g) 114)):=Ar.new _ _;generalize h.new (.cells (gL g) 114)=B at j hn A⊢;have J:g.least=min ((g.D-1)*(g.Z-g.P-2)-(g.D*g.P+4)+1) (g.D*(g.Z-g.P-2)-2*(g.D*g.P+4)+1):=rfl;have fin:∀n,n=g.least->Ok (Kl K (.ptr h.next 0) (I n) B) fun v h'=>v=I g.segments/\Ext h h':=by
  rintro _ rfl;simp only[Kl,Aa];refine Ok.Ds (by kernel_rfl) (by kernel_rfl) (P:=fun v h2=>v=I (g.least/2)/\Ext B.lift h2) ⟨_,_,Bmc (by omega) (by omega) _,rfl,Ar.refl _⟩ (fun _ _ p=>p.2) ?_;rintro _ h2 E ⟨rfl,_⟩ _ C;have y:E.get h.next=some (.cells (gL g) 114):=by rw[C.get _ hn id];exact j
  simp only[Aa,Aw,Ah hn,Cy y rfl,gL,I,Ad];rw[Cn (n:=g.least/2-1) (by omega) (by omega),Cn (n:=g.D*g.P) (by omega) (by omega),Cn (n:=g.least/2-1-g.D*g.P) (by omega) (by omega)];exact .ret ⟨rfl,A.trans C⟩
 simp only[Aa,Cy j rfl,gL,I,Ad];rw[Cn (n:=g.Z-g.P) (by omega) (by omega),Cn (n:=g.Z-g.P-2) (by omega) (by omega),Cn (n:=g.D*g.P) (by omega) (by omega),Cn (n:=g.D*g.P+4) (by omega) (by omega),
  Cn (n:=g.D-1) (by omega) (by omega),Cn (n:=(g.D-1)*(g.Z-g.P-2)) (by omega) (by omega),Cn (n:=(g.D-1)*(g.Z-g.P-2)-(g.D*g.P+4)) (by omega) (by omega),Cn (n:=(g.D-1)*(g.Z-g.P-2)-(g.D*g.P+4)+1) (by omega) (by omega),
  Cn (n:=g.D*(g.Z-g.P-2)) (by omega) (by omega),Cn (n:=2*(g.D*g.P+4)) (by omega) (by omega),Cn (n:=g.D*(g.Z-g.P-2)-2*(g.D*g.P+4)) (by omega) (by omega),Cn (n:=g.D*(g.Z-g.P-2)-2*(g.D*g.P+4)+1) (by omega) (by omega)]
 by_cases f:g.D*(g.Z-g.P-2)-2*(g.D*g.P+4)+1<(g.D-1)*(g.Z-g.P-2)-(g.D*g.P+4)+1
 ·simp only[f,aB,Aa]
  exact fin _ (by omega)
 ·simp only[f,aA,Aa]
  exact fin _ (by omega)
theorem Bev(g:Gm)(hK:1000<K)(h:Ab):Ok (H9 K (gV g) h) fun v h'=>v=.bool (rtB g)/\Ext h h':=by
 simp only[H9,gV,Aa];have j:(h.new (.cells (gL g) 114)).get h.next=some (.cells (gL g) 114):=Ac _ _
 have hn:h.next<(h.new (.cells (gL g) 114)).next:=aE _
 have C:Ext h (h.new (.cells (gL g) 114)):=Ar.new _ _;generalize h.new (.cells (gL g) 114)=W at j hn C⊢;have no:∀b,b=false->Ok (some (.bool false,W)) fun v h'=>v=.bool (b&&(decide (g.parts<=g.S)&&decide (2*g.B<=g.S*g.segments)))/\Ext h h':=by
  rintro _ rfl;exact .ret ⟨by rw[aX],C⟩
 unfold rtB;have f:∀{p:Prop} [Decidable p],¬p->(smB g=true->p)->smB g=false:=fun E hq=>by
  cases hb:smB g with
  | false=>rfl
  | true=>exact absurd (hq hb) E
 simp only[Aa,Cy j rfl,gL,I,Ad];by_cases c1:g.D<3
 ·simp only[c1,aB,Aa,Ad,Ic,Gg,Ew,Ed,Dn,C0,Cp,Cg,Cc,Bv,Bp]
  exact no _ (f (p:=¬g.D<3) (by simpa using c1) fun hb=>by have:=(U1 hb).d0;omega)
 simp only[c1,aA,Aa,Ad,Cy j rfl,gL,I,Ic];by_cases c2:8<g.D
 ·simp only[c2,aB,Aa,Ad,Gg,Ew,Ed,Dn,C0,Cp,Cg,Cc,Bv,Bp]
  exact no _ (f (p:=¬8<g.D) (by simpa using c2) fun hb=>by have:=(U1 hb).d1;omega)
 simp only[c2,aA,Aa,Ad,Cy j rfl,gL,I,Gg];by_cases c3:g.Z<1
 ·simp only[c3,aB,Aa,Ad,Ew,Ed,Dn,C0,Cp,Cg,Cc,Bv,Bp]
  exact no _ (f (p:=¬g.Z<1) (by simpa using c3) fun hb=>by have:=(U1 hb).z0;omega)
 simp only[c3,aA,Aa,Ad,Cy j rfl,gL,I,Ew];by_cases c4:64<g.Z
 ·simp only[c4,aB,Aa,Ad,Ed,Dn,C0,Cp,Cg,Cc,Bv,Bp]
  exact no _ (f (p:=¬64<g.Z) (by simpa using c4) fun hb=>by have:=(U1 hb).z1;omega)
 simp only[c4,aA,Aa,Ad,Cy j rfl,gL,I,Ed];by_cases c5:g.S<4
 ·simp only[c5,aB,Aa,Ad,Dn,C0,Cp,Cg,Cc,Bv,Bp]
  exact no _ (f (p:=¬g.S<4) (by simpa using c5) fun hb=>by have:=(U1 hb).s0;omega)
 simp only[c5,aA,Aa,Ad,Cy j rfl,gL,I,Dn];by_cases F:64<g.S
 ·simp only[F,aB,Aa,Ad,C0,Cp,Cg,Cc,Bv,Bp]
  exact no _ (f (p:=¬64<g.S) (by simpa using F) fun hb=>by have:=(U1 hb).s1;omega)
 simp only[F,aA,Aa,Ad,Cy j rfl,gL,I,C0];by_cases G:g.B<1
 ·simp only[G,aB,Aa,Ad,Cp,Cg,Cc,Bv,Bp]
  exact no _ (f (p:=¬g.B<1) (by simpa using G) fun hb=>by have:=(U1 hb).b0;omega)
 simp only[G,aA,Aa,Ad,Cy j rfl,gL,I,Cp];by_cases J:256<g.B
 ·simp only[J,aB,Aa,Ad,Cg,Cc,Bv,Bp]
  exact no _ (f (p:=¬256<g.B) (by simpa using J) fun hb=>by have:=(U1 hb).b1;omega)
 simp only[J,aA,Aa,Ad,Cy j rfl,gL,I,Cg];by_cases L:g.P<0
 ·simp only[L,aB,Aa,Ad,Cc,Bv,Bp]
  exact no _ (f (p:=¬g.P<0) (by simpa using L) fun hb=>by have:=(U1 hb).p0;omega)
 simp only[L,aA,Aa,Ad,Cy j rfl,gL,I,Cc];by_cases d1:4<g.P
 ·simp only[d1,aB,Aa,Ad,Bv,Bp]
  exact no _ (f (p:=¬4<g.P) (by simpa using d1) fun hb=>by have:=(U1 hb).p1;omega)
 simp only[d1,aA,Aa,Ad,Cy j rfl,gL,I,Bv];by_cases d2:g.O<4
 ·simp only[d2,aB,Aa,Ad,Bp]
  exact no _ (f (p:=¬g.O<4) (by simpa using d2) fun hb=>by have:=(U1 hb).o0;omega)
 simp only[d2,aA,Aa,Ad,Cy j rfl,gL,I,Bp];by_cases d3:64<g.O
 ·simp only[d3,aB,Aa]
  exact no _ (f (p:=¬64<g.O) (by simpa using d3) fun hb=>by have:=(U1 hb).o1;omega)
 have hs:smB g=true:=by
  simp only[smB,bI,N2];omega
 have s:=U1 hs;rw[hs];simp only[d3,aA,Aa,Ad,Tq,Aw,Ah hn,C8 j rfl,Am (show(gL g).length=6 from rfl),aZ];refine Ok.Ds (by kernel_rfl) (by kernel_rfl) (P:=fun v h4=>v=I g.parts/\Ext W.lift h4) ⟨_,_,Bdr s hK _,rfl,Ar.new _ _⟩ (fun _ _ p=>p.2) ?_;rintro _ h4 X ⟨rfl,_⟩ _ U;have y:X.get h.next=some (.cells (gL g) 114):=by rw[U.get _ hn id];exact j
 simp only[Aa,Ad,Aw,Ah hn,Cy y rfl,gL,I];by_cases E:g.parts<=g.S
 ·simp only[E,aB,Aa,Aw,Ah hn,Cy y rfl,C8 y rfl,Am (show(gL g).length=6 from rfl),gL,I,Ad,aZ]
  refine Ok.Ds (by kernel_rfl) (by kernel_rfl) (A4o s _) (fun _ _ p=>p.2) ?_;rintro _ h6 h7 ⟨rfl,_⟩ _ Y;obtain⟨t0,t1⟩:=Bj5 s;have:=s.s0;have:=s.s1;have:=s.b0;have:=s.b1;obtain⟨m0,m1⟩:=Axi (a:=g.S) (b:=g.segments) (A:=64) (B:=2000) (by omega) (by omega) (by omega) (by omega) (by omega);simp only[Ad,I,Ix,Aa];rw[Cn (n:=2*g.B) (by omega) (by omega),Cn (n:=g.S*g.segments) (by omega) (by omega)];exact .ret ⟨rfl,C.trans (U.trans Y)⟩
 ·simp only[E,aA,Aa,Ad,Ix,aX]
  exact .ret ⟨rfl,C.trans U⟩
theorem A26(f:1<=n)(h2:n<=4096)(h:Ab):Apj K (I n) h=some (.tuple [.ptr (h.next+1) 0,I 0],(h.new (.chan n [])).new (.cells [.chan h.next] 266)):=by
 simp only[Apj,I,Ad,Aa];have a:¬(n:Int)<1:=by omega
 have b:¬(4096:Int)<(n:Int):=by omega
 simp only[a,b,aA,Aa,Ad,As7,At3];have hm:Apo (.int .i64 (n:Int)) h=some (.chan h.next,h.new (.chan n [])):=by
  show Bb (Nat.ble n 65536) _ none=_;rw[aR (by omega),Al]
 rw[hm,Au,Az (l:=[.chan h.next]) rfl];simp only[Aa];rfl
structure Fh(h:Ab)(p ql n:Nat)(q c:Nat->Nat)(g:Gm)(ps:Nat->List Int):Prop where
 pos:0<n
 Gw:h.get p=some (.cells (gL g++[.slice ql 0 n n true]) 198)
 row:h.get ql=some (.vec ((List.range n).map fun d=>.ptr (q d) 0) 199 1)
 que:∀d,d<n->h.get (q d)=some (.cells [.chan (c d)] 266)
 chan:∀d,d<n->h.get (c d)=some (.chan g.Z.toNat ((ps d).map I))
 inj:∀d e,d<n->e<n->c d=c e->d=e
structure A8a(h0 h:Ab)(p ql i:Nat)(q c:Nat->Nat)(g:Gm)(s:EV):Prop where
 Gw:h.get p=some (.cells (gL g++[s]) 198)
 row:Ci h s ql 199 1 i ((List.range i).map fun d=>.ptr (q d) 0)
 que:∀d,d<i->h.get (q d)=some (.cells [.chan (c d)] 266)
 chan:∀d,d<i->h.get (c d)=some (.chan g.Z.toNat [])
 inj:∀d e,d<i->e<i->c d=c e->d=e
 new:h0.next<=p/\(0<i->h0.next<=ql)/\∀d,d<i->h0.next<=q d/\h0.next<=c d
 ext:Ext h0 h
 hb:HB h
theorem A0j {g:Gm}(s:Sm g)(h0:Ab){b p:Nat}(Y:b<h0.next)(hg:h0.get b=some (.cells (gL g) 23)):∀(m i:Nat) (ql:Nat) (q c:Nat->Nat) (B:EV) (h:Ab),g.D.toNat-i<m->i<=g.D.toNat->A8a h0 h p ql i q c g B ->
 Ok (Aan K m (.ptr b 0) (.ptr p 0) (I g.D) (I i) h) fun v h'=>v=.tuple [.ptr p 0,I 0]/\Ext h0 h'/\HB h'/\∃ql q c B,A8a h0 h' p ql g.D.toNat q c g B:=by
 have:=s.d0;have:=s.d1;have:=s.z0;have:=s.z1;intro m;induction m with
 | zero=>intro i _ _ _ _ _ hm;omega
 | succ m ih=>
  intro i ql q c B h hm hi P;simp only[Aan,I,Ad,Aa];by_cases J:(i:Int)<g.D
  ·have aa:h.get b=some (.cells (gL g) 23):=by rw[P.ext.get _ Y id];exact hg
   simp only[J,aB,Aa,Av5,Cy aa rfl,gL,I];have hq:=A26 (K:=K) (n:=g.Z.toNat) (by omega) (by omega) h;rw[fB (by omega)]at hq;simp only[I]at hq;simp only[hq,Aa,Ad,aD,aA,Awe];have e1:Ext h ((h.new (.chan g.Z.toNat [])).new (.cells [.chan h.next] 266)):=(Ar.new _ _).trans (Ar.new _ _);have y:HB ((h.new (.chan g.Z.toNat [])).new (.cells [.chan h.next] 266)):=(P.hb.new _).new _;have gq:((h.new (.chan g.Z.toNat [])).new (.cells [.chan h.next] 266)).get (h.next+1)=some (.cells [.chan h.next] 266):=Ac _ _;have gc:((h.new (.chan g.Z.toNat [])).new (.cells [.chan h.next] 266)).get h.next=some (.chan g.Z.toNat []):=by rw[Ay _ (aE _)];exact Ac _ _
   have n1:((h.new (.chan g.Z.toNat [])).new (.cells [.chan h.next] 266)).next=h.next+2:=rfl
   generalize (h.new (.chan g.Z.toNat [])).new (.cells [.chan h.next] 266)=A at e1 y gq gc n1⊢;have gp:A.get p=some (.cells (gL g++[B]) 198):=e1.at P.hb P.Gw;have F:Ci A B ql 199 1 i ((List.range i).map fun d=>.ptr (q d) 0):=P.row.frame fun hl=>e1.get _ (P.hb _ _ (P.row.block hl)) id
   have lp:=P.hb _ _ P.Gw;rw[Cy gp rfl,show(gL g++[B])[6]? = some B from rfl,G8];refine N9 (z:=[.Cl]) F y rfl rfl rfl (by omega) (by omega) ?_;intro h2 G n2 c2;have n0:=P.ext.next
   have C:∀x o,A.get x=some o->(∀l e sz,o≠.vec l e sz)->¬(0<i/\x=ql):=by
    rintro x o X L ⟨hl,rfl⟩;rw[F.block hl]at X;cases X;exact L _ _ _ rfl
   have U:h2.get p=some (.cells (gL g++[B]) 198):=c2.at y gp (C _ _ gp (by intros;simp));refine Ok.st (gL g++[EV.slice (A.next+1) 0 (i+1) (i+1) true]) U rfl rfl rfl ?_;simp only[Aww,I,Ad];rw[Cn (by omega) (by omega)];have hE:Ext h h2->Ext h0 h2:=fun x=>P.ext.trans x
   have x2:Ext h0 h2:=by
    refine(P.ext.trans e1).then c2 fun j hj J=>?_
    have:=(P.new.2.1 hj.1);omega
   have x3:Ext h0 (h2.put p (.cells (gL g++[EV.slice (A.next+1) 0 (i+1) (i+1) true]) 198)):=x2.Ak (.inr P.new.1) (by have:=c2.next;omega) _;have ae:=c2.hb y;have af:HB (h2.put p (.cells (gL g++[EV.slice (A.next+1) 0 (i+1) (i+1) true]) 198)):=ae.put (by have:=c2.next;omega) _;have Cr:∀x o,h.get x=some o->(∀l e sz,o≠.vec l e sz)->x≠p->(h2.put p (.cells (gL g++[EV.slice (A.next+1) 0 (i+1) (i+1) true]) 198)).get x=some o:=by
    intro x o X L ag;rw[Af _ (cN ag)];have W:=e1.at P.hb X;exact c2.at y W (C _ _ W L)
   have aq:h.next<A.next:=by omega
   have P':A8a h0 (h2.put p (.cells (gL g++[EV.slice (A.next+1) 0 (i+1) (i+1) true]) 198)) p (A.next+1) (i+1) (fun d=>if d=i then h.next+1 else q d) (fun d=>if d=i then h.next else c d) g (.slice (A.next+1) 0 (i+1) (i+1) true):=by
    refine⟨Ae _ _ _,?_,?_,?_,?_,⟨P.new.1,fun _=>by omega,?_⟩,x3,af⟩
    ·have:(List.range (i+1)).map (fun d=>EV.ptr (if d=i then h.next+1 else q d) 0)=((List.range i).map fun d=>EV.ptr (q d) 0)++EV.cells (.ptr (h.next+1) 0):=by
      rw[cz,cB];congr 1
      ·refine cY fun d hd=>?_
       rw[aK (by have:=eO.1 hd;omega)]
      ·simp[EV.cells]
     rw[this];refine G.frame fun _=>Af _ ?_
     have:=G.block (by omega);exact Be U this (by simp)
    ·intro d hd
     by_cases f:d=i
     ·subst f
      simp only[bG];rw[Af _ (by omega)];exact c2.at y gq (C _ _ gq (by intros;simp))
     ·simp only[f,aY]
      have:=P.que d (by omega);exact Cr _ _ this (by intros;simp) (Be this P.Gw (by simp))
    ·intro d hd
     by_cases f:d=i
     ·subst f
      simp only[bG];rw[Af _ (by omega)];exact c2.at y gc (C _ _ gc (by intros;simp))
     ·simp only[f,aY]
      have:=P.chan d (by omega);exact Cr _ _ this (by intros;simp) (Be this P.Gw (by simp))
    ·intro d e hd he E
     have lc:=fun d (hd:d<i)=>P.hb _ _ (P.chan d hd)
     by_cases f:d=i<;>by_cases O:e=i
     ·omega
     ·simp only[f,O,bG,aY]at E;have:=lc e (by omega);omega
     ·simp only[f,O,bG,aY]at E;have:=lc d (by omega);omega
     ·simp only[f,O,aY]at E;exact P.inj d e (by omega) (by omega) E
    ·intro d hd
     by_cases f:d=i
     ·subst f;simp only[bG];omega
     ·simp only[f,aY];exact P.new.2.2 d (by omega)
   exact ih (i+1) _ _ _ _ _ (by omega) (by omega) P'
  ·have:i=g.D.toNat:=by omega
   subst this;simp only[J,aA,Aa,Awd];exact .ret ⟨rfl,P.ext,P.hb,ql,q,c,B,P⟩
theorem A4p {g:Gm}(U:rtB g=true)(hK:1000<K)(hb:HB h):Ok (Ajg K (gV g) h) fun v h'=>∃p ql q c,v=.tuple [.ptr p 0,I 0]/\Ext h h'/\HB h'/\Fh h' p ql g.D.toNat q c g (fun _=>[])/\h.next<=p/\h.next<=ql/\∀d,d<g.D.toNat->h.next<=q d/\h.next<=c d:=by
 have s:=Zf U;have:=s.d0;have:=s.d1;simp only[Ajg,gV,Aa];have G:(h.new (.cells (gL g) 23)).get h.next=some (.cells (gL g) 23):=Ac _ _
 have hn:h.next<(h.new (.cells (gL g) 23)).next:=aE _
 have F:Ext h (h.new (.cells (gL g) 23)):=Ar.new _ _;generalize h.new (.cells (gL g) 23)=X at G hn F⊢;simp only[C8 G rfl,Am (show(gL g).length=6 from rfl),Aa];refine(Z7 g X).Ap ?_;rintro _ h2 ⟨rfl,y⟩;rw[U];have j:h2.get h.next=some (.cells (gL g) 23):=by rw[y.get _ hn id];exact G
 have A:h.next<h2.next:=aL hn y.next
 simp only[Aa,Av9,C8 j rfl,Am (show(gL g).length=6 from rfl)];rw[Az (l:=gL g++[.Ao]) rfl];simp only[Aa];have J:=(y.hb (F.hb hb));have B:(h2.new (.cells (gL g++[.Ao]) 198)).get h.next=some (.cells (gL g) 23):=by rw[Ay _ A];exact j
 have C:(h2.new (.cells (gL g++[.Ao]) 198)).get h2.next=some (.cells (gL g++[.Ao]) 198):=Ac _ _
 have W:Ext h2 (h2.new (.cells (gL g++[.Ao]) 198)):=Ar.new _ _;have E:HB (h2.new (.cells (gL g++[.Ao]) 198)):=J.new _;have n3:h2.next<(h2.new (.cells (gL g++[.Ao]) 198)).next:=aE _
 generalize h2.new (.cells (gL g++[.Ao]) 198)=Y at B C W E n3⊢;simp only[Cy B rfl,gL,Aa,I];refine(A0j (K:=K) (p:=h2.next) s h2 A j K 0 0 (fun _=>0) (fun _=>0) .Ao Y (by omega) (by omega) ⟨C,.nil _ _ _ _,fun d hd=>absurd hd (cT _),fun d hd=>absurd hd (cT _),fun d e hd=>absurd hd (cT _),⟨aC _,fun x=>absurd x (bS _),fun d hd=>absurd hd (cT _)⟩,W,E⟩).mono ?_;rintro v h' ⟨rfl,x4,L,ql,q,c,sl,P⟩;refine⟨h2.next,ql,q,c,rfl,F.trans (y.trans x4),L,?_⟩;have f:0<g.D.toNat:=by omega
 have O:=P.row.slice f;subst O;have t:=F.next
 have t2:=y.next
 exact⟨⟨f,P.Gw,P.row.block f,P.que,P.chan,P.inj⟩,by omega,by have:=P.new.2.1 f;omega,fun d hd=>by have:=P.new.2.2 d hd;omega⟩
theorem A6j {g:Gm}(y:rtB g=false)(h:Ab):Ok (Ajg K (gV g) h) fun v h'=>v=.tuple [.Cl,I 20]/\Ext h h':=by
 simp only[Ajg,gV,Aa];have f:(h.new (.cells (gL g) 23)).get h.next=some (.cells (gL g) 23):=Ac _ _
 have j:Ext h (h.new (.cells (gL g) 23)):=Ar.new _ _;generalize h.new (.cells (gL g) 23)=A at f j⊢;simp only[C8 f rfl,Am (show(gL g).length=6 from rfl),Aa];refine(Z7 g A).Ap ?_;rintro _ h2 ⟨rfl,B⟩;rw[y];simp only[Aa];exact .ret ⟨rfl,j.trans B⟩
theorem Ay9(n a:Int)(h:Ab):Abq K (I n) (I a) h=some (.bool (wi n 1 a),h):=by
 simp only[Abq,I,Ad,Aa];by_cases f:1<=n
 ·simp only[f,aB,Aa,Ad,Aex,wi,aZ]
 ·simp only[f,aA,Aa,Ad,Aex,wi,aX]
def Uv(size:Int):Dz:=.cells [.Ao,I size,I 0,I 0,.bool false] 277
theorem A4s {size:Int}(f:1<=size)(h2:size<=64)(h:Ab):L7 K (I size) h=some (.tuple [.ptr h.next 0,I 0],h.new (Uv size)):=by
 have a:¬size<1:=by omega
 have b:¬64<size:=by omega
 simp only[L7,I,Ad,Aa,a,b,aA,Ur,Up];rw[Az (l:=[.Ao,I size,I 0,I 0,.bool false]) rfl];simp only[Aa];rfl
structure Zn where
 l:List (List EV)
 safe:Nat
 st:Nat
 fin:Bool
def Zn.empty:Zn:=⟨[],0,0,false⟩
structure Ft(h:Ab)(z q:Nat)(size:Int)(Z:Zn):Prop where
 An:∃s,h.get z=some (.cells [s,I size,I Z.safe,I Z.st,.bool Z.fin] 277)/\Ci h s q 30 64 Z.l.length Z.l.flatten
 wf:∀x∈Z.l,x.length=64
structure L5(h:Ab)(V zl n:Nat)(z q:Nat->Nat)(size op cnt:Int)(down:Bool)(Zs:Nat->Zn):Prop where
 pos:0<n
 dev:h.get V=some (.cells [.slice zl 0 n n true,I size,I op,I cnt,.bool down] 152)
 row:h.get zl=some (.vec ((List.range n).map fun i=>.ptr (z i) 0) 220 1)
 An:∀i,i<n->Ft h (z i) (q i) size (Zs i)
 A2z:∀i j,i<n->j<n->z i=z j->i=j
 A5s:∀i j,i<n->j<n->(Zs i).l≠[]->(Zs j).l≠[]->q i=q j->i=j
structure Ba9(h0 h:Ab)(V zl i:Nat)(z:Nat->Nat)(size op:Int)(s:EV):Prop where
 dev:h.get V=some (.cells [s,I size,I op,I 0,.bool false] 152)
 row:Ci h s zl 220 1 i ((List.range i).map fun d=>.ptr (z d) 0)
 An:∀d,d<i->h.get (z d)=some (Uv size)
 A2z:∀d e,d<i->e<i->z d=z e->d=e
 new:h0.next<=V/\(0<i->h0.next<=zl)/\∀d,d<i->h0.next<=z d
 ext:Ext h0 h
 hb:HB h
theorem Azt {size:Int}(hn:n<=512)(s0:1<=size)(s1:size<=64)(h0:Ab):∀(m i:Nat) (zl:Nat) (z:Nat->Nat) (F:EV) (h:Ab),n-i<m->i<=n->Ba9 h0 h V zl i z size op F ->
 Ok (Aa3 K m (I size) (.ptr V 0) (I n) (I i) h) fun v h'=>v=.tuple [.ptr V 0,I 0]/\∃zl z F,Ba9 h0 h' V zl n z size op F:=by
 intro m;induction m with
 | zero=>intro i _ _ _ _ hm;omega
 | succ m ih=>
  intro i zl z F h hm hi P;simp only[Aa3,I,Ad,Aa];by_cases G:(i:Int)<n
  ·simp only[G,aB,Aa,Avs]
   have hq:=A4s (K:=K) s0 s1 h;simp only[I]at hq;simp only[hq,Aa,Ad,aD,aA,Awo];have e1:Ext h (h.new (Uv size)):=Ar.new _ _;have y:HB (h.new (Uv size)):=P.hb.new _;have gz:(h.new (Uv size)).get h.next=some (Uv size):=Ac _ _
   have n1:(h.new (Uv size)).next=h.next+1:=rfl
   generalize h.new (Uv size)=A at e1 y gz n1⊢;have O:A.get V=some (.cells [F,I size,I op,I 0,.bool false] 152):=e1.at P.hb P.dev;have C:Ci A F zl 220 1 i ((List.range i).map fun d=>.ptr (z d) 0):=P.row.frame fun hl=>e1.get _ (P.hb _ _ (P.row.block hl)) id
   have lp:=P.hb _ _ P.dev;rw[Cy O rfl];simp only[Aa];refine N9 (z:=[.Cl]) C y rfl rfl rfl (by omega) (by omega) ?_;intro h2 E n2 c2;have n0:=P.ext.next
   have U:∀x o,A.get x=some o->(∀l e sz,o≠.vec l e sz)->¬(0<i/\x=zl):=by
    rintro x o hx J ⟨hl,rfl⟩;rw[C.block hl]at hx;cases hx;exact J _ _ _ rfl
   have W:=c2.at y O (U _ _ O (by intros;simp));refine Ok.Zl W rfl rfl (by show 0<5;decide) ?_;simp only[Awk,I,Ad,List.set];rw[Cn (by omega) (by omega)];have x2:Ext h0 h2:=by
    refine(P.ext.trans e1).then c2 fun j hj G=>?_
    have:=(P.new.2.1 hj.1);omega
   have ad:=c2.hb y;have X:V<h2.next:=by have:=c2.next;omega
   have x3:=x2.Ak (.inr P.new.1) X (.cells [EV.slice (A.next+1) 0 (i+1) (i+1) true,I size,I op,I 0,.bool false] 152);have ae:=ad.put X (.cells [EV.slice (A.next+1) 0 (i+1) (i+1) true,I size,I op,I 0,.bool false] 152);have Cr:∀x o,A.get x=some o->(∀l e sz,o≠.vec l e sz)->x≠V->(h2.put V (.cells [EV.slice (A.next+1) 0 (i+1) (i+1) true,I size,I op,I 0,.bool false] 152)).get x=some o:=by
    intro x o Y J af;rw[Af _ (cN af)];exact c2.at y Y (U _ _ Y J)
   have P':Ba9 h0 (h2.put V (.cells [EV.slice (A.next+1) 0 (i+1) (i+1) true,I size,I op,I 0,.bool false] 152)) V (A.next+1) (i+1) (fun d=>if d=i then h.next else z d) size op (.slice (A.next+1) 0 (i+1) (i+1) true):=by
    refine⟨Ae _ _ _,?_,?_,?_,⟨P.new.1,fun _=>by omega,?_⟩,x3,ae⟩
    ·have:(List.range (i+1)).map (fun d=>EV.ptr (if d=i then h.next else z d) 0)=((List.range i).map fun d=>EV.ptr (z d) 0)++EV.cells (.ptr h.next 0):=by
      rw[cz,cB];congr 1
      ·refine cY fun d hd=>?_
       rw[aK (by have:=eO.1 hd;omega)]
      ·simp[EV.cells]
     rw[this];refine E.frame fun _=>Af _ ?_
     have:=E.block (by omega);exact Be W this (by simp)
    ·intro d hd
     by_cases f:d=i
     ·subst f
      simp only[bG];exact Cr _ _ gz (by intros;simp[Uv]) (Be gz O (by simp[Uv]))
     ·simp only[f,aY]
      have:=e1.at P.hb (P.An d (by omega));exact Cr _ _ this (by intros;simp[Uv]) (Be this O (by simp[Uv]))
    ·intro d e hd he B
     have lc:=fun d (hd:d<i)=>P.hb _ _ (P.An d hd)
     by_cases f:d=i<;>by_cases L:e=i
     ·omega
     ·simp only[f,L,bG,aY]at B;have:=lc e (by omega);omega
     ·simp only[f,L,bG,aY]at B;have:=lc d (by omega);omega
     ·simp only[f,L,aY]at B;exact P.A2z d e (by omega) (by omega) B
    ·intro d hd
     by_cases f:d=i
     ·subst f;simp only[bG];omega
     ·simp only[f,aY];exact P.new.2.2 d (by omega)
   exact ih (i+1) _ _ _ _ (by omega) (by omega) P'
  ·have:i=n:=by omega
   subst this;simp only[G,aA,Aa,Awn];exact .ret ⟨rfl,zl,z,F,P⟩
def Anm(zones size op:Int):Bool:=wi zones 1 512&&wi op 1 64&&wi size 1 64
theorem A3v {size:Int}(A:Anm zones size op=true)(hK:1000<K)(hb:HB h):Ok (Aut K (I zones) (I size) (I op) h) fun v h'=>∃V zl z,v=.tuple [.ptr V 0,I 0]/\Ext h h'/\HB h'/\L5 h' V zl zones.toNat z (fun _=>0) size op 0 false (fun _=>Zn.empty)/\h.next<=V/\h.next<=zl/\∀d,d<zones.toNat->h.next<=z d:=by
 simp only[Anm,bI]at A;obtain⟨⟨B,C⟩,E⟩:=A;obtain⟨a0,L⟩:=N2.1 B;obtain⟨F,c1⟩:=N2.1 E;have w:=fun n a=>Ay9 (K:=K) n a h
 simp only[I]at w;simp only[Aut,I,w,B,C,Aa,Ad,Awj,Awp];rw[Az (l:=[.Ao,I size,I op,I 0,.bool false]) rfl];simp only[Aa];have P:Ba9 h (h.new (.cells [.Ao,I size,I op,I 0,.bool false] 152)) h.next 0 0 (fun _=>0) size op .Ao:=
  ⟨Ac _ _,.nil _ _ _ _,fun d hd=>absurd hd (cT _),fun d e hd=>absurd hd (cT _),⟨aC _,fun x=>absurd x (bS _),fun d hd=>absurd hd (cT _)⟩,Ar.new _ _,hb.new _⟩
 have:=Azt (K:=K) (n:=zones.toNat) (by omega) F c1 h K 0 0 (fun _=>0) .Ao _ (by omega) (by omega) P;rw[fB (by omega)]at this;refine this.mono ?_;rintro v h' ⟨rfl,zl,z,O,P⟩;have f:0<zones.toNat:=by omega
 have y:=P.row.slice f;subst y;exact⟨h.next,zl,z,rfl,P.ext,P.hb,⟨f,P.dev,P.row.block f,fun i G=>⟨⟨_,P.An i G,.nil _ _ _ _⟩,fun x J=>by cases J⟩,P.A2z,fun i j _ _ a=>absurd rfl a⟩,aC _,P.new.2.1 f,P.new.2.2⟩
structure Ah0(h:Ab)(D V M zl n:Nat)(z q:Nat->Nat)(size op cnt:Int)(down:Bool)(Gt happened:EV)(marks:List (EV × EV))(Zs:Nat->Zn):Prop where
 Dc:h.get D=some (.cells [.ptr V 0,Gt,happened,.map M] 149)
 marks:h.get M=some (.map marks)
 dev:L5 h V zl n z q size op cnt down Zs
theorem L5.ext{z q:Nat->Nat}{size:Int}{Zs:Nat->Zn}(d:L5 h V zl n z q size op cnt down Zs)(g:∀i o,h.get i=some o->h'.get i=some o):L5 h' V zl n z q size op cnt down Zs:=by
 refine⟨d.pos,g _ _ d.dev,g _ _ d.row,fun i f=>?_,d.A2z,d.A5s⟩;obtain⟨s,a,b⟩:=(d.An i f).An;exact⟨⟨s,g _ _ a,b.frame fun j=>by rw[g _ _ (b.block j),b.block j]⟩,(d.An i f).wf⟩
theorem Fh.ext{p:Nat}{q c:Nat->Nat}{g:Gm}(d:Fh h p ql n q c g ps)(e:∀i o,h.get i=some o->h'.get i=some o):Fh h' p ql n q c g ps:=
 ⟨d.pos,e _ _ d.Gw,e _ _ d.row,fun i f=>e _ _ (d.que i f),fun i f=>e _ _ (d.chan i f),d.inj⟩
theorem Ah0.ext{M:Nat}{z q:Nat->Nat}{size:Int}{Zs:Nat->Zn}(d:Ah0 h D V M zl n z q size op cnt down Gt happened marks Zs)(e:∀i o,h.get i=some o->h'.get i=some o):
 Ah0 h' D V M zl n z q size op cnt down Gt happened marks Zs:=⟨e _ _ d.Dc,e _ _ d.marks,d.dev.ext e⟩
theorem A3x {size:Int}(B:Anm zones size op=true)(hK:1000<K)(hb:HB h):Ok (Ana K (I zones) (I size) (I op) h) fun v h'=>∃D V M zl z,v=.tuple [.ptr D 0,I 0]/\Ext h h'/\HB h'/\Ah0 h' D V M zl zones.toNat z (fun _=>0) size op 0 false .Ao .Ao [] (fun _=>Zn.empty)/\(h.next<=D/\h.next<=M)/\h.next<=V/\h.next<=zl/\∀d,d<zones.toNat->h.next<=z d:=by
 simp only[Ana,dr];refine(A3v (K:=K) B hK hb).Ap ?_;rintro _ f ⟨V,zl,z,rfl,y,j,d1,nw⟩;simp only[Aa,Ad,I,aD,aA,Avv];rw[show As6 f=some (.map f.next,f.new (.map []))from rfl,Au,Az (l:=[.ptr V 0,.Ao,.Ao,.map f.next]) rfl];simp only[Aa];have A:Ext f ((f.new (.map [])).new (.cells [.ptr V 0,.Ao,.Ao,.map f.next] 149)):=(Ar.new _ _).Di _;refine .ret ⟨(f.new (.map [])).next,V,f.next,zl,z,rfl,y.trans A,(j.new _).new _,⟨Ac _ _,?_,d1.ext fun i o g=>A.at j g⟩,⟨by have:=y.next;show h.next<=f.next+1;omega,y.next⟩,nw⟩;rw[Ay _ (aE _)];exact Ac _ _
section
def Auo(ps:Nat->List Int)(n:Nat)(d:Int):Nat:=if 0<=d/\d<n then(ps d.toNat).length else 0
theorem Auw{q c:Nat}{buf:List EV}(hq:h.get q=some (.cells [.chan c] 266))(hc:h.get c=some (.chan cap buf)):Fl K (.ptr q 0) h=some (I buf.length,h):=by
 simp only[Fl,Aa,Cy hq rfl];have:A3p (.chan c) h=some (I buf.length,h):=by
  show(match h.get c with|some (.chan _ buf)=>some (EV.int .i64 (.ofNat (len buf)),h)|_=>none)=_;rw[hc];simp only;rw[Uf];rfl
 rw[this];rfl
section
variable{p:Nat}{q c:Nat->Nat}{g:Gm}(P:Fh h p ql n q c g ps)
include P
theorem Fh.rowAt:Ci h (.slice ql 0 n n true) ql 199 1 n ((List.range n).map fun d=>.ptr (q d) 0):=.inr ⟨P.pos,rfl,P.row,by simp⟩
theorem Fh.list(k:EV->R):Dr (.ptr p 6) h k=k (.slice ql 0 n n true):=by rw[Cy P.Gw rfl];rfl
theorem Fh.A9f(k:EV->R):Oc 6 (.ptr p 0) h k=k (gV g):=by rw[C8 P.Gw rfl];rfl
theorem Fh.A7a(hd:d<n)(k:EV->R):Dr (.ptr ql (d*1)) h k=k (.ptr (q d) 0):=by
 rw[Cy P.row rfl,bc,av,cF hd];rfl
theorem Fh.len(hd:d<n):Fl K (.ptr (q d) 0) h=some (I (ps d).length,h):=by
 rw[Auw (P.que d hd) (P.chan d hd),bU]
theorem A0g(d:Int):Uw K (.ptr p 0) (I d) h=some (I (Auo ps n d:Nat),h):=by
 unfold Auo;simp only[Uw,I,Ad,Aa];by_cases f:d<0
 ·simp only[f,aB,Aa,Ad,U2]
  rw[aK (by omega)];rfl
 ·simp only[f,aA,Aa,Ad,P.list,U2]
  by_cases h2:(n:Int)<=d
  ·simp only[h2,aB,Aa]
   rw[aK (by omega)];rfl
  ·simp only[h2,aA,Aa,Afu,P.list]
   have hd:d.toNat<n:=by omega
   have e:d=(d.toNat:Int):=by omega
   rw[e,P.rowAt.ix hd];simp only[Aa,P.A7a hd];rw[P.len hd,Au,aN (by omega)];rfl
end
def A5o(ps:Nat->List Int)(Sz:Int)(b:Int)(d:Nat):Int:=if ¬(d:Int)=Sz/\(b<0\/(ps b.toNat).length<(ps d).length)then d else b
def Fx(ps:Nat->List Int)(Sz:Int)(n:Nat):Int:=(List.range n).foldl (A5o ps Sz) (-1)
theorem Arn(ps:Nat->List Int)(Sz:Int)(n:Nat):Fx ps Sz (n+1)=A5o ps Sz (Fx ps Sz n) n:=by unfold Fx;rw[cz,List.foldl_append];rfl
theorem A5y(ps:Nat->List Int)(Sz:Int):∀n,-1<=Fx ps Sz n/\Fx ps Sz n<(n:Int)/\(Fx ps Sz n = -1\/0<=Fx ps Sz n)
 | 0=>by unfold Fx;simp
 | n+1=>by
  obtain⟨a,b,c⟩:=A5y ps Sz n;rw[Arn];unfold A5o;split<;>omega
def Bam(n:Nat)(ps:Nat->List Int):Prop:=n<=64/\∀d,d<n->(ps d).length<=4096
theorem A2b {p:Nat}{q c:Nat->Nat}{g:Gm}(Sz:Int)(hn:n<=64):∀(m i:Nat) (h:Ab),n-i<m->i<=n->HB h->Fh h p ql n q c g ps ->
 Ok (Hq K m (.ptr p 0) (I Sz) (I (Fx ps Sz i)) (.slice ql 0 n n true) (I n) (I i) h) fun v h'=>v=I (Fx ps Sz n)/\Ext h h':=by
 intro m;induction m with
 | zero=>intro i h hm;omega
 | succ m U=>
  intro i h hm X hb P;simp only[Hq,I,Ad,Aa];by_cases B:(i:Int)<n
  ·have y:i<n:=by omega
   simp only[B,aB,Aa,Aaf];rw[P.rowAt.ix y,P.A7a y];obtain⟨b0,b1,b2⟩:=A5y ps Sz i;have next:∀(b:Int) (C:Ab),b=Fx ps Sz (i+1)->Ext h C->Ok (Mv K (Hq K m) (.ptr p 0) (.int .i64 Sz) (.int .i64 b) (.slice ql 0 n n true) (.int .i64 (n:Int)) (.int .i64 (i:Int)) C) fun v h'=>v=I (Fx ps Sz n)/\Ext h h':=by
    rintro _ C rfl F;simp only[Mv,Ad];rw[Cn (by omega) (by omega)];exact(U (i+1) C (by omega) (by omega) (F.hb hb) (P.ext fun i o g=>F.at hb g)).mono fun v h' a=>⟨a.1,F.trans a.2⟩
   rw[Arn]at next
   unfold A5o at next
   simp only[Aa,Ad];by_cases f:(i:Int)=Sz
   ·simp only[f,aD,aA,Aa,Ad,Nn,Hl,Hn]
    rw[aK (fun x=>x.1 f)]at next
    rw[f]at next
    exact next _ h rfl (Ar.refl _)
   ·simp only[f,aG,aB,Aa,Ad,Nn]
    by_cases j:Fx ps Sz i<0
    ·simp only[j,aB,Aa,Ad,Hl,Hn]
     rw[aN ⟨f,.inl j⟩]at next
     exact next _ h rfl (Ar.refl _)
    ·simp only[j,aA,Aa,Ad]
     refine Ok.Ds (by kernel_rfl) (by kernel_rfl) (P:=fun v h2=>v=I (ps i).length/\Ext h.lift h2) ⟨_,_,(P.ext (h':=h.lift) fun i o g=>by rw[By];exact g).len y,rfl,Ar.refl _⟩ (fun _ _ p=>p.2) ?_;rintro _ h2 G ⟨rfl,_⟩ _ J;have E:Fh G p ql n q c g ps:=P.ext fun i o g=>J.at hb g
     have W:p<h.next:=hb _ _ P.Gw
     have hq:ql<h.next:=hb _ _ P.row
     have A:(Fx ps Sz i).toNat<n:=by omega
     simp only[Aa,Aw,Ah W,E.list];rw[show Fx ps Sz i=((Fx ps Sz i).toNat:Int) by omega,E.rowAt.ix A];simp only[Aa,Aw,Ah hq,E.A7a A];refine Ok.Ds (by kernel_rfl) (by kernel_rfl) (P:=fun v h2=>v=I (ps (Fx ps Sz i).toNat).length/\Ext G.lift h2) ⟨_,_,(E.ext (h':=G.lift) fun i o g=>by rw[By];exact g).len A,rfl,Ar.refl _⟩ (fun _ _ p=>p.2) ?_;rintro _ h4 L ⟨rfl,_⟩ _ O;rw[show((Fx ps Sz i).toNat:Int)=Fx ps Sz i by omega];simp only[Ad,I];by_cases hc:((ps (Fx ps Sz i).toNat).length:Int)<(ps i).length
     ·simp only[hc,aB,Hl,Hn,Aa,Ad]
      rw[aN ⟨f,.inr (by omega)⟩]at next
      exact next _ L rfl (J.trans O)
     ·simp only[hc,aA,Hl,Hn,Aa,Ad]
      rw[aK (fun x=>by rcases x.2 with a|a<;>omega)]at next
      exact next _ L rfl (J.trans O)
  ·have:i=n:=by omega
   subst this;simp only[B,aA,Aa,Abi];exact .ret ⟨rfl,Ar.refl _⟩
theorem Ar6{p:Nat}{q c:Nat->Nat}{g:Gm}(P:Fh h p ql n q c g ps)(hb:HB h)(hn:n<=64)(hK:1000<K)(Sz:Int):
 Ok (Kg K (.ptr p 0) (I Sz) h) fun v h'=>v=I (Fx ps Sz n)/\Ext h h':=by
 simp only[Kg,Aa,P.list];exact A2b Sz hn K 0 h (by omega) (by omega) hb P
def Ao0(ps:Nat->List Int)(n:Nat):Nat:=((List.range n).map fun d=>(ps d).length).sum
theorem Aj0(ps:Nat->List Int)(n:Nat):Ao0 ps (n+1)=Ao0 ps n+(ps n).length:=by unfold Ao0;rw[cz,cB,List.sum_append];simp
def Zh(ps:Nat->List Int)(n:Nat):Int:=min ((Ao0 ps n:Int)/2) (Ao0 ps n-Auo ps n (Fx ps (-1) n))
theorem Bap {p:Nat}{q c:Nat->Nat}{g:Gm}(hs:Bam n ps)(hb:HB h)(P:Fh h p ql n q c g ps)(hK:1000<K):∀(m i:Nat),n-i<m->i<=n->Ao0 ps i<=4096*i ->
 Ok (Ls K m (.ptr p 0) (I (Ao0 ps i)) (.slice ql 0 n n true) (I n) (I i) h) fun v h'=>v=I (Zh ps n)/\Ext h h':=by
 obtain⟨hn,y⟩:=hs;intro m;induction m with
 | zero=>intro i hm;omega
 | succ m C=>
  intro i hm E A;simp only[Ls,I,Ad,Aa];by_cases j:(i:Int)<n
  ·have f:i<n:=by omega
   have:=y i f;simp only[j,aB,Aa,Aet];rw[P.rowAt.ix f,P.A7a f,P.len f,Au];simp only[I,Ad,Afg];rw[Cn (by omega) (by omega),Cn (by omega) (by omega)];have e:((Ao0 ps i:Int)+(ps i).length)=(Ao0 ps (i+1):Nat):=by rw[Aj0];omega
   rw[e];exact C (i+1) (by omega) (by omega) (by rw[Aj0];omega)
  ·have:i=n:=by omega
   subst this;simp only[j,aA,Aa,Ae9];rw[Bh6 (by omega) (by omega) (by omega)];refine(Ar6 P hb hn hK (-1)).Ap ?_;rintro _ F ⟨rfl,B⟩;rw[A0g (P.ext fun i o g=>B.at hb g),Au];simp only[I,Ad];have hle:Auo ps i (Fx ps (-1) i)<=4096:=by
    unfold Auo;split
    ·exact y _ (by omega)
    ·omega
   rw[Cn (by omega) (by omega),min2,Au];exact .ret ⟨rfl,B⟩
theorem A5u{p:Nat}{q c:Nat->Nat}{g:Gm}(P:Fh h p ql n q c g ps)(hb:HB h)(hs:Bam n ps)(hK:1000<K):
 Ok (Iu K (.ptr p 0) h) fun v h'=>v=I (Zh ps n)/\Ext h h':=by
 simp only[Iu,Aa,P.list];exact Bap hs hb P hK K 0 (by obtain⟨a,_⟩:=hs;omega) (by omega) (by unfold Ao0;simp)
end
section
noncomputable def Aa7(D:Nat)(g:Gm)(p bl n:Nat)(a b u:Int):List EV:=[.ptr D 0]++gL g++Ba++[.ptr p 0,.slice bl 0 n n false,I a,I b,I u]
theorem Rj:Ba.length=256:=by kernel_rfl
section
variable (D:Nat)(g:Gm)(p bl n:Nat)(a b u:Int)
theorem Aza:(Aa7 D g p bl n a b u).length=268:=by unfold Aa7;simp[Rj,gL]
theorem A88:(Aa7 D g p bl n a b u)[0]? = some (.ptr D 0):=rfl
theorem Beu:Mh (Aa7 D g p bl n a b u) 1 6=some (gL g):=by kernel_rfl
theorem A96:Mh (Aa7 D g p bl n a b u) 7 256=some Ba:=by kernel_rfl
theorem Bef:(Aa7 D g p bl n a b u)[263]? = some (.ptr p 0):=by kernel_rfl
theorem Bhg:(Aa7 D g p bl n a b u)[264]? = some (.slice bl 0 n n false):=by kernel_rfl
theorem Bnv:(Aa7 D g p bl n a b u)[265]? = some (I a):=by kernel_rfl
theorem Bny:(Aa7 D g p bl n a b u)[266]? = some (I b):=by kernel_rfl
theorem Bns:(Aa7 D g p bl n a b u)[267]? = some (I u):=by kernel_rfl
end
theorem Vi{l:List EV}(f:h.get i=some (.cells l t))(hs:TT.size t=some n)(j:TT.agg t=some true)(y:l.length=n):I9 TT [.c (.ptr i 0) t] h=some (.agg l,h):=by
 have A:Jg h i 0 n=some l:=by
  unfold Jg;rw[f];simp only;rw[<-Ag1];exact Am y
 unfold I9;simp only[Axa,hs,A,j]
structure Aaz(h:Ab)(m D p bl n:Nat)(g:Gm)(a b u:Int)(bad:Nat->Int):Prop where
 Iv:h.get m=some (.cells (Aa7 D g p bl n a b u) 132)
 Axd:h.get bl=some (.cells ((List.range n).map fun z=>I (bad z)) 3)
section
variable{m p bl:Nat}{g:Gm}{u:Int}{bad:Nat->Int}(M:Aaz h m D p bl n g a b u bad)
include M
theorem Aaz.Dc(k:EV->R):Dr (.ptr m 0) h k=k (.ptr D 0):=by rw[Cy M.Iv rfl,A88];rfl
theorem Aaz.A9f(k:EV->R):Oc 6 (.ptr m 1) h k=k (gV g):=by rw[C8 M.Iv rfl,Beu];rfl
theorem Aaz.table(k:EV->R):Oc 256 (.ptr m 7) h k=k Wc:=by rw[C8 M.Iv rfl,A96];rfl
theorem Aaz.Gw(k:EV->R):Dr (.ptr m 263) h k=k (.ptr p 0):=by rw[Cy M.Iv rfl,Bef];rfl
theorem Aaz.Bpl(k:EV->R):Dr (.ptr m 264) h k=k (.slice bl 0 n n false):=by rw[Cy M.Iv rfl,Bhg];rfl
theorem Aaz.oa(k:EV->R):Dr (.ptr m 265) h k=k (I a):=by rw[Cy M.Iv rfl,Bnv];rfl
theorem Aaz.ob(k:EV->R):Dr (.ptr m 266) h k=k (I b):=by rw[Cy M.Iv rfl,Bny];rfl
theorem Aaz.ou(k:EV->R):Dr (.ptr m 267) h k=k (I u):=by rw[Cy M.Iv rfl,Bns];rfl
theorem Aaz.ext(e:∀i o,h.get i=some o->h'.get i=some o):Aaz h' m D p bl n g a b u bad:=⟨e _ _ M.Iv,e _ _ M.Axd⟩
omit M in
theorem Blt:TT.size 23=some 6/\TT.agg 23=some true:=⟨by kernel_rfl,by kernel_rfl⟩
omit M in
theorem Bnb:TT.size 119=some 256/\TT.agg 119=some true:=⟨by kernel_rfl,by kernel_rfl⟩
end
section
variable{M:Nat}{z q:Nat->Nat}{size:Int}{Zs:Nat->Zn}
theorem Al9(d:Ah0 h D V M zl n z q size op cnt down Gt happened marks Zs):E3 K (.ptr D 0) h=some (.ptr V 0,h):=by simp only[E3,Aa,Cy d.Dc rfl]
theorem Atd(d:L5 h V zl n z q size op cnt down Zs):Ng K (.ptr V 0) h=some (I n,h):=by simp only[Ng,Aa,Cy d.dev rfl,I]
theorem Av3(d:L5 h V zl n z q size op cnt down Zs):O0 K (.ptr V 0) h=some (I size,h):=by simp only[O0,Aa,Cy d.dev rfl]
end
theorem Bnk(v:EV):∀n,rep [v] n=List.replicate n v
 | 0=>rfl
 | n+1=>by show[v]++rep [v] n=_;rw[Bnk v n];rfl
theorem Awu(v:EV)(n:Nat):(List.range n).map (fun _=>v)=List.replicate n v:=by
 rw[List.map_const',eI]
theorem A0h {g:Gm}(hK:1000<K)(hb:HB h){M:Nat}{z q:Nat->Nat}{size:Int}{Zs:Nat->Zn}(dr:Ah0 h D V M zl n z q size op cnt down Gt happened marks Zs):
 Ok (Aey K (.ptr D 0) (gV g) Wc h) fun v h'=>Ext h h'/\HB h'/\if rtB g=true/\g.D*g.Z=n/\g.S=size then
  ∃m p bl ql q c,v=.tuple [.ptr m 0,I 0]/\Aaz h' m D p bl n g (-1) (-1) 0 (fun _=>0)/\Fh h' p ql g.D.toNat q c g (fun _=>[])/\(h.next<=m/\h.next<=bl)/\h.next<=p/\h.next<=ql/\∀d,d<g.D.toNat->h.next<=q d/\h.next<=c d else v=.tuple [.Cl,I 20]:=by
 have ai:Py 119 Wc (h.new (.cells (gL g) 23))=fun(k:EV->Ab->R)=>k (.ptr (h.next+1) 0) ((h.new (.cells (gL g) 23)).new (.cells Ba 119)):=rfl
 simp only[Aey,gV,Aa,ai];have g4:((h.new (.cells (gL g) 23)).new (.cells Ba 119)).get h.next=some (.cells (gL g) 23):=by rw[Ay _ (aE _)];exact Ac _ _
 have g5:((h.new (.cells (gL g) 23)).new (.cells Ba 119)).get (h.next+1)=some (.cells Ba 119):=Ac _ _;have F:Ext h ((h.new (.cells (gL g) 23)).new (.cells Ba 119)):=(Ar.new _ _).Di _;have n1:((h.new (.cells (gL g) 23)).new (.cells Ba 119)).next=h.next+2:=rfl
 generalize (h.new (.cells (gL g) 23)).new (.cells Ba 119)=h1 at g4 g5 F n1⊢;have E:=F.hb hb;simp only[C8 g4 rfl,Am (show(gL g).length=6 from rfl),Aa];cases hr:rtB g with
 | false=>
  refine(A6j hr h1).Ap ?_;rintro _ h2 ⟨rfl,C⟩;simp only[Aa,I,Ad,show ¬((20:Int)=0) by decide,aG,aB,Zy,Qm];exact .ret ⟨F.trans C,C.hb E,rfl⟩
 | true=>
  have s:=Zf hr;have:=s.d0;have:=s.d1;have:=s.z0;have:=s.z1;obtain⟨m0,m1⟩:=N1 (a:=g.D) (b:=g.Z) (A:=8) (B:=64) (by omega) (by omega) (by omega) (by omega);refine(A4p hr hK E).Ap ?_;rintro _ h2 ⟨p,ql,qq,c,rfl,C,j,P,nw⟩;have k2:∀i o,h.get i=some o->h2.get i=some o:=fun i o g=>C.at E (F.at hb g)
  have l4:h.next<h2.next:=by have:=C.next;omega
  have l5:h.next+1<h2.next:=by have:=C.next;omega
  have U:=C.at E g4;have aq:=C.at E g5;simp only[Aa,I,Ad,aD,aA];refine Ok.Ds (by kernel_rfl) (by kernel_rfl) (P:=fun v h3=>v=.ptr V 0/\Ext h2.lift h3) ⟨_,_,Al9 ((dr.ext k2).ext fun i o g=>by rw[By];exact g),rfl,Ar.refl _⟩ (fun _ _ p=>p.2) ?_;rintro _ _ h3 ⟨rfl,_⟩ _ x3;have W:=x3.hb j;have k3:∀i o,h.get i=some o->h3.get i=some o:=fun i o g=>x3.at j (k2 i o g)
  refine Ok.Ds (by kernel_rfl) (by kernel_rfl) (P:=fun v h4=>v=I n/\Ext h3.lift h4) ⟨_,_,Atd ((dr.dev.ext k3).ext fun i o g=>by rw[By];exact g),rfl,Ar.refl _⟩ (fun _ _ p=>p.2) ?_;rintro _ _ h4 ⟨rfl,_⟩ _ x4;have X:=x4.hb W;have k4:∀i o,h.get i=some o->h4.get i=some o:=fun i o g=>x4.at W (k3 i o g)
  have Y:Ext h2 h4:=x3.trans x4;have ax:=Y.at j U;simp only[Aa,Aw,Ah l4,C8 ax rfl,Am (show(gL g).length=6 from rfl)];refine Ok.Ds (by kernel_rfl) (by kernel_rfl) (P:=fun v O=>v=I (g.D*g.Z)/\Ext h4.lift O) ⟨_,_,Lh s _,rfl,Ar.new _ _⟩ (fun _ _ p=>p.2) ?_;rintro _ _ O ⟨rfl,_⟩ _ x5;have aa:=x5.hb X;have k5:∀i o,h.get i=some o->O.get i=some o:=fun i o g=>x5.at X (k4 i o g)
  simp only[I,Ad,Zy];have ab:Ext h2 O:=Y.trans x5;by_cases hn:(n:Int)=g.D*g.Z
  ·simp only[hn,aD,aA,Aa,Ad]
   refine Ok.Ds (by kernel_rfl) (by kernel_rfl) (P:=fun v h6=>v=.ptr V 0/\Ext O.lift h6) ⟨_,_,Al9 ((dr.ext k5).ext fun i o g=>by rw[By];exact g),rfl,Ar.refl _⟩ (fun _ _ p=>p.2) ?_;rintro _ _ h6 ⟨rfl,_⟩ _ x6;have a1:=x6.hb aa;have k6:∀i o,h.get i=some o->h6.get i=some o:=fun i o g=>x6.at aa (k5 i o g)
   refine Ok.Ds (by kernel_rfl) (by kernel_rfl) (P:=fun v J=>v=I size/\Ext h6.lift J) ⟨_,_,Av3 ((dr.dev.ext k6).ext fun i o g=>by rw[By];exact g),rfl,Ar.refl _⟩ (fun _ _ p=>p.2) ?_;rintro _ _ J ⟨rfl,_⟩ _ x7;have a2:=x7.hb a1;have y:Ext h2 J:=ab.trans (x6.trans x7);have ad:=y.at j U;simp only[Aa,Aw,Ah l4,Cy ad rfl,gL,I,Ad];by_cases hs:size=g.S
   ·subst hs
    simp only[aD,aA,Qm,Aql,Aa];have a6:=y.at j aq;have a7:h.next<J.next:=aL l4 y.next
    have ba:h.next+1<J.next:=aL l5 y.next
    simp only[Aa,Aw,Ah a7,Ah ba,C8 ad rfl,C8 a6 rfl,Am (show(gL g).length=6 from rfl),Am Rj];refine Ok.Ds (by kernel_rfl) (by kernel_rfl) (P:=fun v f=>v=I (g.D*g.Z)/\Ext J.lift f) ⟨_,_,Lh s _,rfl,Ar.new _ _⟩ (fun _ _ p=>p.2) ?_;rintro _ _ f ⟨rfl,_⟩ _ x8;have b7:=x8.hb a2;have L:Ext h2 f:=y.trans x8;simp only[Aa,Aw,I];rw[<-hn];have bb:Vb [.int .i64 0] 3 (.int .i64 (n:Int)) (.int .i64 (n:Int)) f=some (.slice f.next 0 n n false,f.new (.cells (rep [.int .i64 0] n) 3)):=by
     show Bb (Nat.ble n n) (Bb (Nat.ble n 65536) _ none) none=_;rw[aR (aC n),Al,aR (by omega),Al]
    rw[bb,Au,Az (l:=Aa7 D g p f.next n (-1) (-1) 0) (by kernel_rfl)];simp only[Aa,Aw];have ae:Ext f ((f.new (.cells (rep [.int .i64 0] n) 3)).new (.cells (Aa7 D g p f.next n (-1) (-1) 0) 132)):=(Ar.new _ _).Di _;have G:Ext h ((f.new (.cells (rep [.int .i64 0] n) 3)).new (.cells (Aa7 D g p f.next n (-1) (-1) 0) 132)):=(F.trans C).trans (L.trans ae);refine .ret ⟨G,G.hb hb,?_⟩;rw[aN (by first|exact⟨rfl,hn.symm,rfl⟩|simp[hn]|simp)];refine⟨f.next+1,p,f.next,ql,qq,c,rfl,⟨Ac _ _,?_⟩,P.ext fun i o g=>Ext.at (L.trans ae) j g,?_⟩
    ·rw[Ay _ (aE _),Ac,Bnk,Awu]
    ·have t1:=F.next
     have t2:=C.next
     have t3:=L.next
     exact⟨⟨by omega,by omega⟩,by omega,by omega,fun d hd=>by have:=nw.2.2 d hd;omega⟩
   ·have af:¬size=g.S:=hs
    simp only[af,aG,aB,Qm,Aa];have G:Ext h J:=(F.trans C).trans y;refine .ret ⟨G,G.hb hb,?_⟩;rw[aK (fun x=>af x.2.2.symm)]
  ·simp only[hn,aG,aB,Aa,Ad,Qm]
   have G:Ext h O:=(F.trans C).trans ab;refine .ret ⟨G,G.hb hb,?_⟩;rw[aK (fun x=>hn x.2.1.symm)]
end
section
section
variable{m p bl:Nat}{g:Gm}{u:Int}{bad:Nat->Int}(M:Aaz h m D p bl n g a b u bad)
include M
theorem Se:Bw K (.ptr m 0) h=some (.ptr p 0,h):=by simp only[Bw,Aa,M.Gw]
theorem Aca:Bx K (.ptr m 0) h=some (.ptr D 0,h):=by simp only[Bx,Aa,M.Dc]
theorem Aya:Hj K (.ptr m 0) h=some (.tuple [I a,I b,I u],h):=by simp only[Hj,Aa,M.oa,M.ob,M.ou]
theorem Ayw(hb:HB h):Ok (Bz K (.ptr m 0) h) fun v h'=>v=gV g/\Ext h h':=by
 simp only[Bz,Aa];have f:Aaz (h.new (.cells [.int .i64 0,.int .i64 0,.int .i64 0,.int .i64 0,.int .i64 0,.int .i64 0] 23)) m D p bl n g a b u bad:=M.ext fun i o g=>Ext.at (Ar.new h _) hb g
 rw[f.A9f];refine Ok.st (gL g) (Ac _ _) rfl rfl rfl ?_;rw[Vi (Ae _ _ _) Blt.1 Blt.2 rfl];exact .ret ⟨rfl,(Ar.new h _:Ext _ _).Ak (.inr (aC _)) (aE _) _⟩
theorem Aw9(hb:HB h):Ok (K2 K (.ptr m 0) h) fun v h'=>v=Wc/\Ext h h':=by
 simp only[K2,Aa];have f:Aaz (h.new (.cells (List.replicate 256 (.int .u32 0)) 119)) m D p bl n g a b u bad:=M.ext fun i o g=>Ext.at (Ar.new h _) hb g
 rw[f.table];refine Ok.st Ba (Ac _ _) rfl (by rw[show EV.cells Wc=Ba from rfl,Bf,Rj]) (by rw[show EV.cells Wc=Ba from rfl];exact Bm (by rw[Rj];simp)) ?_;rw[Vi (Ae _ _ _) Bnb.1 Bnb.2 Rj];exact .ret ⟨rfl,(Ar.new h _:Ext _ _).Ak (.inr (aC _)) (aE _) _⟩
end
end
section
section
variable{q c:Nat}(hq:h.get q=some (.cells [.chan c] 266))(hc:h.get c=some (.chan cap (xs.map I)))
include hq hc
theorem A2m(x:Int)(f:xs.length<cap):Ha K (.ptr q 0) (I x) h=some (I 0,h.put c (.chan cap ((xs++[x]).map I))):=by
 have hs:Ay1 (.chan c) (I x) h=some (.tuple [.int .i64 0,.bool false],h.put c (.chan cap ((xs++[x]).map I))):=by
  unfold Ay1;simp only[hc,Uf,bU];rw[aR f,Al,cB];rfl
 simp only[Ha,Aa,Cy hq rfl,hs,Ad,aB]
theorem Boj(x:Int)(f:cap<=xs.length):Ha K (.ptr q 0) (I x) h=some (I 17,h):=by
 have hs:Ay1 (.chan c) (I x) h=some (.tuple [.int .i64 (-1),.bool false],h):=by
  unfold Ay1;simp only[hc,Uf,bU];rw[show Nat.ble (Nat.succ xs.length) cap=false from by
   cases hb:Nat.ble (Nat.succ xs.length) cap with
   | false=>rfl
   | true=>have:=bB hb;omega,Bl]
 simp only[Ha,Aa,Cy hq rfl,hs,Ad,show ¬((-1:Int)=0) by decide,aA]
theorem take_cons{r:List Int}(f:xs=x::r):Gk K (.ptr q 0) h=some (.tuple [I x,I 0],h.put c (.chan cap (r.map I))):=by
 subst f;have hs:Ay5 (.int .i64 0) (.chan c) h=some (.tuple [.int .i64 0,.bool true,I x],h.put c (.chan cap (r.map I))):=by
  unfold Ay5;simp only[hc,dB]
 simp only[Gk,Aa,Cy hq rfl,hs,Ad,aB]
theorem take_nil(f:xs = []):Gk K (.ptr q 0) h=some (.tuple [I 0,I 15],h):=by
 subst f;have hs:Ay5 (.int .i64 0) (.chan c) h=some (.tuple [.int .i64 (-1),.bool false,.int .i64 0],h):=by
  unfold Ay5;simp only[hc,List.map_nil]
 simp only[Gk,Aa,Cy hq rfl,hs,Ad,show ¬((-1:Int)=0) by decide,aA]
end
structure Listed(h0 h:Ab)(v:EV)(c cap:Nat)(xs:List Int)(q':Nat):Prop where
 row:Ci h v q' 3 1 xs.length (xs.map I)
 new:0<xs.length->h0.next<=q'
 chan:h.get c=some (.chan cap (xs.map I))
 chg:Ar (fun i=>i=c) h0 h
 hb:HB h
theorem Bff{q c:Nat}(A:h0.get q=some (.cells [.chan c] 266))(f:∃b,h0.get c=some (.chan cap b))(J:xs.length<=cap)(L:cap<=4096)(hb0:HB h0):∀(m j:Nat) (h:Ab) (s:EV) (q':Nat),xs.length-j<m->j<=xs.length ->
 Ci h s q' 3 1 xs.length (xs.map I)->(0<xs.length->h0.next<=q')->h.get c=some (.chan cap ((xs.take j).map I))->Ar (fun i=>i=c) h0 h->HB h ->
 Ok (Ip K m (.ptr q 0) s s (I xs.length) (I j) h) fun v h'=>∃q',Listed h0 h' v c cap xs q':=by
 obtain⟨b0,f⟩:=f;have F:q≠c:=Be A f (by simp);have lc:=hb0 _ _ f;intro m;induction m with
 | zero=>intro j h s q' hm;omega
 | succ m O=>
  intro j h s q' hm hj row new hc x hb;simp only[Ip,I,Ad,Aa];by_cases B:(j:Int)<xs.length
  ·have y:j<xs.length:=by omega
   have hq:h.get q=some (.cells [.chan c] 266):=Ar.at x hb0 A F;have C:=row.block (by omega);simp only[B,aB,Aa,Ace];rw[row.ix y,Cy C rfl,bc,av,aH y,dQ,G8,A2m hq hc xs[j] (by rw[bJ];omega),Au];simp only[Acx,Ad];rw[Cn (by omega) (by omega)];have e:xs.take j++[xs[j]]=xs.take (j+1):=(cv y).symm;rw[e];have E:c<h.next:=aL lc x.next
   have G:q'≠c:=Be C hc (by simp);exact O (j+1) _ s q' (by omega) (by omega) (row.frame fun _=>Af _ (cN G)) new (Ae _ _ _) (x.Ak (.inl rfl) E _) (hb.put E _)
  ·have:j=xs.length:=by omega
   subst this;simp only[B,aA,Aa,T4];rw[cM]at hc;exact .ret ⟨q',row,new,hc,x,hb⟩
theorem Bdb{q c:Nat}(B:h0.get q=some (.cells [.chan c] 266))(f:∃b,h0.get c=some (.chan cap b))(C:xs.length<=cap)(L:cap<=4096)(hb0:HB h0)(hK:5000<K):∀(m j:Nat) (h:Ab) (s:EV) (q':Nat),xs.length-j<m->j<=xs.length ->
 Ci h s q' 3 1 j ((xs.take j).map I)->(0<j->h0.next<=q')->h.get c=some (.chan cap ((xs.drop j).map I))->Ar (fun i=>i=c) h0 h->HB h ->
 Ok (Il K m (.ptr q 0) s (I xs.length) (I j) h) fun v h'=>∃q',Listed h0 h' v c cap xs q':=by
 have E:=f;obtain⟨b0,f⟩:=f;have O:q≠c:=Be B f (by simp);have lc:=hb0 _ _ f;intro m;induction m with
 | zero=>intro j h s q' hm;omega
 | succ m Y=>
  intro j h s q' hm hj row new hc x hb;simp only[Il,I,Ad,Aa];by_cases F:(j:Int)<xs.length
  ·have G:j<xs.length:=by omega
   have hq:h.get q=some (.cells [.chan c] 266):=Ar.at x hb0 B O;have e:xs.drop j=xs[j]::xs.drop (j+1):=cZ G;have y:c<h.next:=aL lc x.next
   simp only[F,aB,Aa,Acu];rw[take_cons hq hc e];simp only[Aa,I,Ad,aB];have J:Ci (h.put c (.chan cap ((xs.drop (j+1)).map I))) s q' 3 1 j ((xs.take j).map I):=row.frame fun U=>Af _ (cN (Be (row.block U) hc (by simp)))
   refine N9 (z:=[.int .i64 0]) J (hb.put y _) rfl rfl rfl (by omega) (by omega) ?_;intro h2 A n2 c2;have W:Ar (fun i=>i=c) h0 (h.put c (.chan cap ((xs.drop (j+1)).map I))):=x.Ak (.inl rfl) y _;have x3:Ar (fun i=>i=c) h0 h2:=W.then c2 fun i hi U=>by have:=new hi.1;omega
   simp only[Aci,Ad];rw[Cn (by omega) (by omega)];have e2:(xs.take j).map I++EV.cells (.int .i64 xs[j])=(xs.take (j+1)).map I:=by
    rw[cv G,cB];rfl
   rw[e2]at A;refine Y (j+1) _ _ _ (by omega) (by omega) A (fun _=>by have:=W.next;omega) ?_ x3 (c2.hb (hb.put y _));rw[c2.get _ (by rw[Ab.Qf];exact y) (fun X=>by
    have:=row.block X.1;exact Be this hc (by simp) X.2.symm)]
   exact Ae _ _ _
  ·have:j=xs.length:=by omega
   subst this;rw[cM]at row;simp only[F,aA,Aa,Tx];rw[row.Hz];rw[List.drop_length]at hc;exact Bff B E C L hb0 K 0 h s q' (by omega) (by omega) row new hc x hb
theorem Azy{q c:Nat}(j:h0.get q=some (.cells [.chan c] 266))(f:h0.get c=some (.chan cap (xs.map I)))(y:xs.length<=cap)(A:cap<=4096)(hb0:HB h0)(hK:5000<K):
 Ok (S7 K (.ptr q 0) h0) fun v h'=>∃q',Listed h0 h' v c cap xs q':=by
 simp only[S7,dr];rw[Auw j f,Au,bU];exact Bdb j ⟨_,f⟩ y A hb0 hK K 0 h0 .Ao 0 (by omega) (by omega) (.nil _ _ _ _) (fun x=>absurd x (bS _)) f (Ar.refl _) hb0
theorem Listed.same{c:Nat}{q':Nat}(l:Listed h0 h v c cap xs q')(hc:h0.get c=some (.chan cap (xs.map I))):∀i,i<h0.next->h.get i=h0.get i:=by
 intro i f;by_cases e:i=c
 ·subst e;rw[l.chan,hc]
 ·exact l.chg.get i f e
end
section
theorem Bp2:(Dt TT 18 0).2.1 = [9,10]:=by kernel_rfl
theorem Bo7:(Dt TT 146 0).2.1 = [19,20]:=by kernel_rfl
section
variable (H:Ca disp)
include H
theorem Bf7(he:1<=e){z i:Int}(E:h.get l0=some (As TT 18 14 0 tm .ready none d0))(t3:tmp tm 3=.ptr b3 0)(t4:tmp tm 4=.ptr b4 0)(U:h.get b3=some (.cells [I z] 3))(J:h.get b4=some (.cells [.bool false] 4))(hb:HB h):
 ∃h',Ag TT disp K (e+1) true l0 [I i,I x] h=some (.bool (decide (¬x=z)),h')/\h'.get l0=some (As TT 18 14 0 tm (if x=z then .done else .ready) (if x=z then some .ret else none) d0)/\h'.get b4=some (.cells [.bool (decide (x=z))] 4)/\Ar (fun j=>j=l0\/j=b4) h h'/\HB h':=by
 have y:=E;unfold As at y;rw[Bp2]at y;rw[Aoo H he tm h (I i) (I x) y,t3,t4];have F:=hb _ _ E;have X:=hb _ _ J;have L:l0≠b3:=Be E U (by simp[As]);have f:l0≠b4:=Be E J (by simp[As]);simp only[Aiz,Qo E,Aai,dr];have G:(h.put l0 (As TT 18 14 0 tm .busy none d0)).get b3=some (.cells [I z] 3):=by rw[Af _ L];exact U
 have A:(h.put l0 (As TT 18 14 0 tm .busy none d0)).get b4=some (.cells [.bool false] 4):=by rw[Af _ f];exact J
 have B:(h.put l0 (As TT 18 14 0 tm .busy none d0)).get l0=some (As TT 18 14 0 tm .busy none d0):=Ae _ _ _;have O:Ar (fun j=>j=l0\/j=b4) h (h.put l0 (As TT 18 14 0 tm .busy none d0)):=(Ar.refl h).Ak (.inl (.inl rfl)) F _;have C:HB (h.put l0 (As TT 18 14 0 tm .busy none d0)):=hb.put F _;have Y:(h.put l0 (As TT 18 14 0 tm .busy none d0)).next=h.next:=rfl
 generalize h.put l0 (As TT 18 14 0 tm .busy none d0)=h1 at G A B O C Y⊢;simp only[Cy G rfl,Aa,I,Ad];by_cases W:x=z
 ·simp only[W,aB,Aa,aD,aA,bG]
  rw[Akl (o:=0) (n:=1) (v:=.bool true) (l':=[.bool true]) A rfl rfl rfl,Js (by rw[Af _ (cN f)];exact B)];exact⟨_,rfl,Ae _ _ _,by rw[Af _ f];exact Ae _ _ _,(O.Ak (.inl (.inr rfl)) (by omega) _).Ak (.inl (.inl rfl)) (by rw[Ab.Qf];omega) _,(C.put (by omega) _).put (by rw[Ab.Qf];omega) _⟩
 ·simp only[W,aA,Aa,aG,aB,aY]
  rw[Js B];exact⟨_,rfl,Ae _ _ _,by rw[Af _ f];exact A,O.Ak (.inl (.inl rfl)) (by omega) _,C.put (by omega) _⟩
theorem Bc9(he:2<=e){l1 d1 b5:Nat}{z i dd:Int}(X:h.get l0=some (As TT 18 14 0 tm .ready none d0))(t3:tmp tm 3=.ptr b3 0)(t4:tmp tm 4=.ptr b4 0)(g3:h.get b3=some (.cells [I z] 3))(g4:h.get b4=some (.cells [.bool false] 4))
 (f:h.get l1=some (As TT 146 27 0 tm1 .ready none d1)) (u2:tmp tm1 2=.ptr b2 0) (u3:tmp tm1 3=.ptr b5 0) (g2:h.get b2=some (.cells [.Sy l0] 213)) (g5:h.get b5=some (.cells [I dd] 3)) (hb:HB h) :
 ∃h',Ag TT disp K (e+1) true l1 [I i,I x] h=some (.bool (decide (¬x=z)),h')/\h'.get l0=some (As TT 18 14 0 tm (if x=z then .done else .ready) (if x=z then some .ret else none) d0)/\h'.get l1=some (As TT 146 27 0 tm1 (if x=z then .done else .ready) (if x=z then some .ret else none) d1) /\
  h'.get b4=some (.cells [.bool (decide (x=z))] 4)/\Ar (fun j=>j=l0\/j=b4\/j=l1) h h'/\HB h':=by
 obtain⟨e,rfl⟩:∃k,e=k+1:=⟨e-1,by omega⟩;have C:=f;unfold As at C;rw[Bo7]at C;rw[Alj H (by omega) tm1 h (I i) (I x) C,u2,u3];have J:=hb _ _ f;have E:l1≠l0:=Be f X (by simp[As]);have A:∀b o,h.get b=some o->(∀st p,o≠As TT 146 27 0 tm1 st p d1)->(h.put l1 (As TT 146 27 0 tm1 .busy none d1)).get b=some o:=fun b o Y hn=>by
  rw[Af _ (Be f Y (fun x=>hn _ _ x.symm))];exact Y
 simp only[Afn,Qo f,Wt,dr];have q0:=A _ _ X (by intros;simp[As]);have q2:=A _ _ g2 (by intros;simp[As]);have q3:=A _ _ g3 (by intros;simp[As]);have O:=A _ _ g4 (by intros;simp[As]);have q5:=A _ _ g5 (by intros;simp[As]);have U:(h.put l1 (As TT 146 27 0 tm1 .busy none d1)).get l1=some (As TT 146 27 0 tm1 .busy none d1):=Ae _ _ _;have x1:Ar (fun j=>j=l0\/j=b4\/j=l1) h (h.put l1 (As TT 146 27 0 tm1 .busy none d1)):=(Ar.refl h).Ak (.inl (.inr (.inr rfl))) J _;have F:HB (h.put l1 (As TT 146 27 0 tm1 .busy none d1)):=hb.put J _;have n1:(h.put l1 (As TT 146 27 0 tm1 .busy none d1)).next=h.next:=rfl
 generalize h.put l1 (As TT 146 27 0 tm1 .busy none d1)=h1 at q0 U q2 q3 O q5 x1 F n1⊢;simp only[Cy q2 rfl,Cy q5 rfl,Aa];have hc:Rn (Ag TT disp K (e+1) false) (Ag TT disp K (e+1) true) (.Sy l0) [I dd,I x] h1=Ag TT disp K (e+1) true l0 [I dd,I x] h1:=rfl;rw[hc];obtain⟨h2,r1,L,G,W,r5⟩:=Bf7 (K:=K) H (e:=e) (by omega) (i:=dd) (x:=x) q0 t3 t4 q3 O F;rw[r1,Au];have B:h2.get l1=some (As TT 146 27 0 tm1 .busy none d1):=Ar.at W F U (fun y=>by
  rcases y with y|y
  ·exact E y
  ·exact Be U O (by simp[As]) y)
 have n2:=W.next
 have x2:Ar (fun j=>j=l0\/j=b4\/j=l1) h h2:=x1.trans (W.mono fun j hj=>hj.elim .inl (fun y=>.inr (.inl y)));by_cases hx:x=z
 ·simp only[hx,aD,aA,aB,bG]at L G⊢
  simp only[Aa];rw[Js B];refine⟨_,rfl,?_,Ae _ _ _,?_,x2.Ak (.inl (.inr (.inr rfl))) (by omega) _,r5.put (by omega) _⟩
  ·rw[Af _ E];exact L
  ·rw[Af _ (Be B G (by simp[As]))];exact G
 ·simp only[hx,aG,aA,aB,aY]at L G⊢
  simp only[Aa];rw[Js B];refine⟨_,rfl,?_,Ae _ _ _,?_,x2.Ak (.inl (.inr (.inr rfl))) (by omega) _,r5.put (by omega) _⟩
  ·rw[Af _ E];exact L
  ·rw[Af _ (Be B G (by simp[As]))];exact G
end
end
section
structure A9w(h:Ab)(l0 d0:Nat)(tm:Ax)(b3 b4:Nat)(z:Int)(b2:Nat)(found:Bool):Prop where
 lp:h.get l0=some (As TT 18 14 0 tm (if found then .done else .ready) (if found then some .ret else none) d0)
 c3:h.get b3=some (.cells [I z] 3)
 c4:h.get b4=some (.cells [.bool found] 4)
 c2:h.get b2=some (.cells [.Sy l0] 213)
 hb:HB h
structure Biv(tm:Ax)(b3 b4:Nat):Prop where
 t3:tmp tm 3=.ptr b3 0
 t4:tmp tm 4=.ptr b4 0
section
variable (H:Ca disp){z:Int}(T0:Biv tm b3 b4){l1 d1:Nat}{b5:Nat}{dd:Int}(u2:tmp tm1 2=.ptr b2 0)(u3:tmp tm1 3=.ptr b5 0)
include H T0 u2 u3
theorem Bex(he:3<=e)(hn:xs.length<=4096):∀(m i:Nat) (h:Ab) (s:EV) (q':Nat),xs.length-i<m->i<=xs.length->A9w h l0 d0 tm b3 b4 z b2 false->h.get l1=some (As TT 146 27 0 tm1 .ready none d1)->h.get b5=some (.cells [I dd] 3) ->
 Ci h s q' 3 1 xs.length (xs.map I)->(xs.take i).contains z=false ->
 Ok (Ju (Ag TT disp K e false) (Ag TT disp K e true) K m (.Sy l1) s (I xs.length) (I i) h) fun v h'=>v=.tuple []/\A9w h' l0 d0 tm b3 b4 z b2 (xs.contains z)/\h'.get l1=some (As TT 146 27 0 tm1 (if xs.contains z then .done else .ready) (if xs.contains z then some .ret else none) d1)/\Ar (fun j=>j=l0\/j=b4\/j=l1) h h':=by
 intro m;induction m with
 | zero=>intro i h s q' hm;omega
 | succ m ih=>
  intro i h s q' hm hi L g1 g5 row A;simp only[Ju,I,Ad,Aa];by_cases J:(i:Int)<xs.length
  ·have B:i<xs.length:=by omega
   have C:=row.block (by omega);simp only[J,aB,Aa,Aag];rw[row.ix B,Cy C rfl,bc,av,aH B,dQ,G8];obtain⟨e,rfl⟩:∃k,e=k+1:=⟨e-1,by omega⟩;have hc:Rn (Ag TT disp K (e+1) false) (Ag TT disp K (e+1) true) (.Sy l1) [I i,I xs[i]] h=Ag TT disp K (e+1) true l1 [I i,I xs[i]] h:=rfl;obtain⟨h2,r1,W,X,Y,r5,r6⟩:=Bc9 (K:=K) H (e:=e) (by omega) (i:=i) (x:=xs[i]) L.lp T0.t3 T0.t4 L.c3 L.c4 g1 u2 u3 L.c2 g5 L.hb;have ad:∀k:EV->Ab->R,Ap (Rn (Ag TT disp K (e+1) false) (Ag TT disp K (e+1) true) (.Sy l1) [.int .i64 (i:Int),I xs[i]] h) k=k (.bool (decide (¬xs[i]=z))) h2:=fun k=>by
    have:Rn (Ag TT disp K (e+1) false) (Ag TT disp K (e+1) true) (.Sy l1) [.int .i64 (i:Int),I xs[i]] h=some (.bool (decide (¬xs[i]=z)),h2):=hc.trans r1;rw[this,Au]
   rw[ad];have f:∀b o,h.get b=some o->(∀st p,o≠As TT 18 14 0 tm st p d0)->(∀st p,o≠As TT 146 27 0 tm1 st p d1)->(∀v,o≠.cells [v] 4)->h2.get b=some o:=fun b o E n0 n1 n4=>Ar.at r5 L.hb E fun y=>by
    rcases y with rfl|rfl|rfl
    ·rw[L.lp]at E;cases E;exact n0 _ _ rfl
    ·rw[L.c4]at E;cases E;exact n4 _ rfl
    ·rw[g1]at E;cases E;exact n1 _ _ rfl
   have k3:=f _ _ L.c3 (by intros;simp[As]) (by intros;simp[As]) (by intros;simp);have k2:=f _ _ L.c2 (by intros;simp[As]) (by intros;simp[As]) (by intros;simp);have k5:=f _ _ g5 (by intros;simp[As]) (by intros;simp[As]) (by intros;simp);by_cases G:xs[i]=z
   ·have O:xs.contains z=true:=by
     rw[List.contains_iff_mem,<-G];exact bF B
    simp only[G,bG,aB]at W X Y;simp only[G,aD,aA,Aa];exact .ret ⟨rfl,by rw[O];exact⟨W,k3,Y,k2,r6⟩,by rw[O];exact X,r5⟩
   ·simp only[G,aY,aA]at W X Y
    simp only[G,aG,aB,Aa,Aao,Ad];rw[Cn (by omega) (by omega)];have F:Ci h2 s q' 3 1 xs.length (xs.map I):=row.frame fun _=>by
     rw[f _ _ C (by intros;simp[As]) (by intros;simp[As]) (by intros;simp),C]
    have U:(xs.take (i+1)).contains z=false:=by
     rw[cv B];simp only[List.contains_eq_mem,bL,aO,cS]at A⊢;intro y;rcases y with y|y
     ·exact A y
     ·exact G y.symm
    refine(ih (i+1) h2 s q' (by omega) (by omega) ⟨W,k3,Y,k2,r6⟩ X k5 F U).mono ?_;rintro v h' ⟨a1,a2,a3,a4⟩;exact⟨a1,a2,a3,r5.trans a4⟩
  ·have:i=xs.length:=by omega
   subst this;simp only[J,aA,Aa];rw[cM]at A;exact .ret ⟨rfl,by rw[A];exact L,by rw[A];exact g1,Ar.refl _⟩
theorem Bk0(he:3<=e)(hK:5000<K){F q c:Nat}(G:h.get F=some (.cells [.ptr q 0] 199))(hq:h.get q=some (.cells [.chan c] 266))(hc:h.get c=some (.chan cap (xs.map I)))(B:xs.length<=cap)(C:cap<=4096)
 (L:A9w h l0 d0 tm b3 b4 z b2 false) (J:h.get l1=some (As TT 146 27 0 tm1 .ready none d1)) (O:h.get b5=some (.cells [I dd] 3)) :
 Ok (Ag TT disp K (e+1) false 199 [.Sy l1,.ptr F 0] h) fun v h'=>A9w h' l0 d0 tm b3 b4 z b2 (xs.contains z)/\h'.get l1=some (As TT 146 27 0 tm1 (if xs.contains z then .done else .ready) (if xs.contains z then some .ret else none) d1) /\
  (∀i,i<h.next->¬(i=l0\/i=b4\/i=l1)->h'.get i=h.get i)/\Ar (fun j=>j=c\/j=l0\/j=b4\/j=l1) h h':=by
 rw[Am0 H (by omega)];simp only[Ahi,Cy G rfl,Aa];refine(Azy hq hc B C L.hb hK).Ap ?_;rintro s E ⟨q',y⟩;rw[y.row.Hz];have same:=y.same hc;have f:∀i o,h.get i=some o->E.get i=some o:=fun i o g=>by rw[same i (L.hb _ _ g)];exact g
 have U:A9w E l0 d0 tm b3 b4 z b2 false:=⟨f _ _ L.lp,f _ _ L.c3,f _ _ L.c4,f _ _ L.c2,y.hb⟩;refine(Bex (K:=K) H T0 u2 u3 he (by omega) K 0 E s q' (by omega) (by omega) U (f _ _ J) (f _ _ O) y.row (by simp)).mono ?_;rintro v h' ⟨_,W,a3,a4⟩;refine⟨W,a3,fun i A hn=>by rw[a4.get i (aL A y.chg.next) hn,same i A],?_⟩;exact(y.chg.mono fun i A=>.inl A).trans (a4.mono fun i A=>.inr A)
end
end
section
def hasB(ps:Nat->List Int)(n:Nat)(z:Int):Bool:=(List.range n).any fun d=>(ps d).contains z
theorem Bc2(ps:Nat->List Int)(n:Nat)(z:Int):hasB ps (n+1) z=(hasB ps n z||(ps n).contains z):=by
 unfold hasB;rw[cz,List.any_append];simp
theorem Bc5{z:Int}:hasB ps n z=true↔∃d,d<n/\z∈ps d:=by
 unfold hasB;simp
theorem Bma{z:Int}(hd:d<n)(h:(ps d).contains z=true):hasB ps n z=true:=Bc5.2 ⟨d,hd,List.contains_iff_mem.1 h⟩
structure Mid(h0 h:Ab)(C:Nat->Prop)(l0 d0:Nat)(tm:Ax)(b3 b4:Nat)(z:Int)(b2:Nat)(found:Bool):Prop where
 kp:Kp C h0 h
 look:A9w h l0 d0 tm b3 b4 z b2 found
 cd:h.get d0=some (.deferred true)
 n0:h0.next<=l0
 n4:h0.next<=b4
 nd:h0.next<=d0
section
variable (H:Ca disp){p:Nat}{q c:Nat->Nat}{g:Gm}(P:Fh h0 p ql n q c g ps)(hb0:HB h0)(hps:∀d,d<n->(ps d).length<=g.Z.toNat)(hZ:g.Z<=4096)(hn:n<=64)
variable{z:Int}(T0:Biv tm b3 b4)
include H P hb0 hps hZ hn T0
theorem Bhy(he:4<=e)(hK:5000<K):∀(m i:Nat) (h:Ab) (t1:Ax) (ds:List Nat),n-i<m->i<=n->Mid h0 h (fun x=>∃d,d<n/\x=c d) l0 d0 tm b3 b4 z b2 false->tmp t1 2=.ptr b2 0 ->
 ds.Nodup->(∀d∈ds,h.get d=some (.deferred true)/\h0.next<=d/\d≠d0)->hasB ps i z=false ->
 Ok (L2 (Ag TT disp K e false) (Ag TT disp K e true) K m t1 (.slice ql 0 n n true) (I n) (I i) h ds) fun v h'=>Mid h0 h' (fun x=>∃d,d<n/\x=c d) l0 d0 tm b3 b4 z b2 (hasB ps n z):=by
 intro m;induction m with
 | zero=>intro i h t1 ds hm;omega
 | succ m ih=>
  intro i h t1 ds hm hi M u2 af aa ag;have fin:∀(h2:Ab) (dl:List Nat) (found:Bool),found=hasB ps n z->Mid h0 h2 (fun x=>∃d,d<n/\x=c d) l0 d0 tm b3 b4 z b2 found->dl.Nodup->(∀d∈dl,h2.get d=some (.deferred true)/\h0.next<=d/\d≠d0) ->
   Ok (Fp dl h2 fun h=>some (EV.tuple [],h)) fun v h'=>Mid h0 h' (fun x=>∃d,d<n/\x=c d) l0 d0 tm b3 b4 z b2 (hasB ps n z):=by
   rintro h2 dl found rfl M2 a2 L;refine Ok.unwind a2 (fun d hd=>(L d hd).1) M2.look.hb fun h3 ch b6=>.ret ?_
   have nk:∀b o,h2.get b=some o->o≠.deferred true->¬(b∈dl):=fun b o F f hb=>by rw[(L b hb).1]at F;cases F;exact f rfl
   have a:∀b o,h2.get b=some o->o≠.deferred true->h3.get b=some o:=fun b o F f=>Ar.at ch M2.look.hb F (nk b o F f)
   refine⟨M2.kp.A37 ch fun i hi=>(L i hi).2.1,⟨a _ _ M2.look.lp (by simp[As]),a _ _ M2.look.c3 (by simp),a _ _ M2.look.c4 (by simp),a _ _ M2.look.c2 (by simp),ch.hb M2.look.hb⟩,Ar.at ch M2.look.hb M2.cd (fun y=>(L _ y).2.2 rfl),M2.n0,M2.n4,M2.nd⟩
  simp only[L2,I,Ad,Aa];by_cases ah:(i:Int)<n
  ·have A:i<n:=by omega
   have a6:∀b o,h0.get b=some o->h.get b=some o:=fun b o F=>M.kp.at hb0 F
   have P1:=P.ext a6;simp only[ah,aB,Aa,Aeb];rw[P1.rowAt.ix A,P1.A7a A]
   try simp only[Aa]
   refine Ok.Zl (Ac _ _) rfl rfl (by show 0<1;decide) ?_;have b8:=M.kp.chg.next
   have x1:Ext h ((h.new (.cells [.int .i64 0] 3)).put h.next (.cells [EV.int .i64 (i:Int)] 3)):=(Ar.new _ _:Ext h _).Ak (.inr (aC _)) (aE _) _;have g5:((h.new (.cells [.int .i64 0] 3)).put h.next (.cells [EV.int .i64 (i:Int)] 3)).get h.next=some (.cells [I i] 3):=Ae _ _ _
   simp only[List.set];generalize (h.new (.cells [.int .i64 0] 3)).put h.next (.cells [EV.int .i64 (i:Int)] 3)=W at x1 g5⊢
   have bb:=x1.hb M.look.hb;have ca:=x1.next
   simp only[Acb,Aa];have x2:Ext h (W.new (.cells [.ptr (q i) 0] 199)):=x1.Di _;have g6:(W.new (.cells [.ptr (q i) 0] 199)).get W.next=some (.cells [.ptr (q i) 0] 199):=Ac _ _
   have ai:(W.new (.cells [.ptr (q i) 0] 199)).get h.next=some (.cells [I i] 3):=by rw[Ay _ (bb _ _ g5)];exact g5
   have n2:W.next<(W.new (.cells [.ptr (q i) 0] 199)).next:=aE _
   generalize W.new (.cells [.ptr (q i) 0] 199)=h2 at x2 g6 ai n2⊢;have bf:=x2.hb M.look.hb;generalize ad:(((((((t1.put 13 (some (EV.bool true))).put 14 (some (EV.int .i64 (i:Int)))).put 15 (some (EV.ptr ql (i*1)))).put 16 (some (EV.ptr (q i) 0))).put 3 (some (EV.ptr h.next 0))).put 4 (some (EV.ptr (q i) 0))).put 17 (some (EV.ptr (q i) 0))).put 18 (some (EV.func 199 [] [EV.ptr W.next 0]))=t2;have v2:tmp t2 2=.ptr b2 0:=by rw[<-ad];simp only[Ei,reduceIte,Nat.reduceEqDiff,u2]
   have v3:tmp t2 3=.ptr h.next 0:=by rw[<-ad];simp only[Ei,reduceIte,Nat.reduceEqDiff]
   have bj:∀w,tmp ((t2.put 26 (some w)).put 12 (some w)) 2=.ptr b2 0:=fun w=>by simp only[Ei,reduceIte,Nat.reduceEqDiff,v2]
   clear ad;refine Ok.range ?_;have x3:Ext h (Bq TT 146 27 0 t2 h2):=x2.trans Gh;have al:=x3.hb M.look.hb;have C:∀b o,h.get b=some o->(Bq TT 146 27 0 t2 h2).get b=some o:=fun b o F=>x3.at M.look.hb F
   have X:∀b o,h2.get b=some o->(Bq TT 146 27 0 t2 h2).get b=some o:=fun b o F=>Ext.at Gh bf F
   have L3:A9w (Bq TT 146 27 0 t2 h2) l0 d0 tm b3 b4 z b2 false:=⟨C _ _ M.look.lp,C _ _ M.look.c3,C _ _ M.look.c4,C _ _ M.look.c2,al⟩;have P3:=P1.ext C;obtain⟨e,rfl⟩:∃k,e=k+1:=⟨e-1,by omega⟩;refine(Bk0 (K:=K) H T0 (l1:=h2.next+1) (d1:=h2.next) v2 v3 (e:=e) (by omega) hK (X _ _ g6) (P3.que i A) (P3.chan i A) (hps i A) (by omega) L3 Gc (X _ _ ai)).mono ?_;rintro v h4 ⟨L4,E,B,aq⟩;have cl:=aq.next
   have cm:h2.next+1<(Bq TT 146 27 0 t2 h2).next:=by rw[Ayj];omega
   have bk:Kp (fun x=>∃d,d<n/\x=c d) h0 h4:=by
    refine⟨(M.kp.chg.trans (Ext.to x3)).then aq ?_,fun j hj=>?_⟩
    ·rintro j (rfl|rfl|rfl|rfl) hl
     ·exact⟨i,A,rfl⟩
     ·have:=M.n0;omega
     ·have:=M.n4;omega
     ·have:=x2.next;omega
    ·have bn:j<(Bq TT 146 27 0 t2 h2).next:=by have:=x3.next;omega
     rw[B j bn (by rintro(rfl|rfl|rfl)<;>(have:=M.n0;have:=M.n4;have:=x2.next;omega)),x3.get j (by omega) id];exact M.kp.same j hj
   have bo:h4.get h2.next=some (.deferred true):=by
    rw[B _ (by omega) ?_]
    ·exact G3
    ·rintro(y|y|y)
     ·have:=M.look.hb _ _ M.look.lp;omega
     ·have:=M.look.hb _ _ M.look.c4;omega
     ·omega
   have G:∀d,h.get d=some (.deferred true)->h4.get d=some (.deferred true):=fun d gd=>by
    have au:=C _ _ gd;rw[B d (al _ _ au) ?_]
    ·exact au
    ·rintro(rfl|rfl|rfl)
     ·rw[M.look.lp]at gd;cases gd
     ·rw[M.look.c4]at gd;cases gd
     ·have:=M.look.hb _ _ gd;omega
   have bp:∀o,h4.get (h2.next+1)=some o->∀b o',h4.get b=some o'->(∀st p,o'≠As TT 146 27 0 t2 st p h2.next)->b≠h2.next+1:=by
    intro o ho b o' J f e';subst e';rw[E]at J;cases J;exact f _ _ rfl
   have O:∀(p5:Option Code),Mid h0 (h4.put (h2.next+1) (As TT 146 27 0 t2 .exhausted p5 h2.next)) (fun x=>∃d,d<n/\x=c d) l0 d0 tm b3 b4 z b2 ((ps i).contains z):=by
    intro p5;have aw:h2.next+1<h4.next:=by omega
    have pn:∀b o',h4.get b=some o'->(∀st p,o'≠As TT 146 27 0 t2 st p h2.next)->(h4.put (h2.next+1) (As TT 146 27 0 t2 .exhausted p5 h2.next)).get b=some o':=fun b o' J f=>by
     rw[Af _ (cN (bp _ E b o' J f))];exact J
    refine⟨bk.Ak (by have:=x2.next;omega) aw _,⟨pn _ _ L4.lp (by intros;simp[As]),pn _ _ L4.c3 (by intros;simp[As]),pn _ _ L4.c4 (by intros;simp[As]),pn _ _ L4.c2 (by intros;simp[As]),L4.hb.put aw _⟩,pn _ _ (G _ M.cd) (by intros;simp[As]),M.n0,M.n4,M.nd⟩
   have Y:∀(p5:Option Code),∀d∈h2.next::ds,(h4.put (h2.next+1) (As TT 146 27 0 t2 .exhausted p5 h2.next)).get d=some (.deferred true)/\h0.next<=d/\d≠d0:=by
    intro p5 d hd;rcases bV.1 hd with rfl|hd
    ·exact⟨by rw[Af _ (by omega)];exact bo,by have:=x2.next;omega,by have:=M.look.hb _ _ M.cd;omega⟩
    ·obtain⟨a,b,c'⟩:=aa d hd
     exact⟨by rw[Af _ (by have:=M.look.hb _ _ a;omega)];exact G _ a,b,c'⟩
   have ay:(h2.next::ds).Nodup:=cQ.2 ⟨fun hd=>by have:=M.look.hb _ _ (aa _ hd).1;omega,af⟩;cases U:(ps i).contains z with
   | true=>
    rw[U]at E O;refine .inr ⟨E,?_⟩;exact fin _ _ true (Bma A U).symm (O _) ay (Y _)
   | false=>
    rw[U]at E O;refine .inl ⟨E,?_⟩;simp only[Pk,Ad];rw[Cn (by omega) (by omega)];exact ih (i+1) _ _ _ (by omega) (by omega) (O _) (bj _) ay (Y _) (by rw[Bc2,ag,U];rfl)
  ·have:i=n:=by omega
   subst this;simp only[ah,aA,Aa];exact fin h ds false ag.symm M af aa
end
section
variable (H:Ca disp){p:Nat}{q c:Nat->Nat}{g:Gm}(P:Fh h0 p ql n q c g ps)(hb0:HB h0)(hps:∀d,d<n->(ps d).length<=g.Z.toNat)(hZ:g.Z<=4096)(hn:n<=64)
include H P hb0 hps hZ hn
theorem A9a(hd:7<=d)(hK:5000<K)(z:Int):Ok (Ag TT disp K d false 18 [.ptr p 0,I z] h0) fun v h'=>v=.bool (hasB ps n z)/\Kp (fun x=>∃d,d<n/\x=c d) h0 h'/\HB h':=by
 obtain⟨e,rfl⟩:∃k,d=k+2:=⟨d-2,by omega⟩;rw[Aud H (by omega)];simp only[Aq6,I,Aa,Aia];have x1:Ext h0 (((h0.new (.cells [.int .i64 z] 3)).new (.cells [.bool false] 4)).new (.cells [.ptr p 0] 43)):=((Ar.new _ _).Di _).Di _;have n1:(((h0.new (.cells [.int .i64 z] 3)).new (.cells [.bool false] 4)).new (.cells [.ptr p 0] 43)).next=h0.next+3:=rfl
 have C:(((h0.new (.cells [.int .i64 z] 3)).new (.cells [.bool false] 4)).new (.cells [.ptr p 0] 43)).get (h0.next+2)=some (.cells [.ptr p 0] 43):=Ac _ _;have g4:(((h0.new (.cells [.int .i64 z] 3)).new (.cells [.bool false] 4)).new (.cells [.ptr p 0] 43)).get (h0.next+1)=some (.cells [.bool false] 4):=by
  rw[Ay _ (aE _)];exact Ac _ _
 have g3:(((h0.new (.cells [.int .i64 z] 3)).new (.cells [.bool false] 4)).new (.cells [.ptr p 0] 43)).get h0.next=some (.cells [I z] 3):=by
  rw[Ay _ (show h0.next<h0.next+2 by omega),Ay _ (show h0.next<h0.next+1 by omega)];exact Ac _ _
 have ag:((h0.new (.cells [.int .i64 z] 3)).new (.cells [.bool false] 4)).next=h0.next+2:=rfl
 have ah:(h0.new (.cells [.int .i64 z] 3)).next=h0.next+1:=rfl
 rw[ag,ah];generalize ((h0.new (.cells [.int .i64 z] 3)).new (.cells [.bool false] 4)).new (.cells [.ptr p 0] 43)=f at x1 n1 C g4 g3⊢;have L:=x1.hb hb0;generalize O:(((((Tr.nil.put 0 (some (EV.ptr p 0))).put 1 (some (EV.int .i64 z))).put 3 (some (EV.ptr h0.next 0))).put 4 (some (EV.ptr (h0.next+1) 0))).put 7 (some (EV.ptr p 0))).put 8 (some (EV.func 146 [] [EV.ptr (h0.next+2) 0]))=tm;have T0:Biv tm h0.next (h0.next+1):=⟨by rw[<-O];simp only[Ei,reduceIte,Nat.reduceEqDiff],by rw[<-O];simp only[Ei,reduceIte,Nat.reduceEqDiff]⟩
 clear O;refine Ok.range ?_;rw[Apx H (by omega)];simp only[Aly,Aa];have x2:Ext f (Bq TT 18 14 0 tm f):=Gh;have Y:=x2.hb L;have ai:Py 213 (.Sy (f.next+1)) (Bq TT 18 14 0 tm f)=fun(k:EV->Ab->R)=>k (.ptr (f.next+2) 0) ((Bq TT 18 14 0 tm f).new (.cells [.Sy (f.next+1)] 213)):=rfl
 rw[ai];have x3:Ext f ((Bq TT 18 14 0 tm f).new (.cells [.Sy (f.next+1)] 213)):=x2.Di _;have k2:((Bq TT 18 14 0 tm f).new (.cells [.Sy (f.next+1)] 213)).get (f.next+2)=some (.cells [.Sy (f.next+1)] 213):=Ac _ _;have kl:((Bq TT 18 14 0 tm f).new (.cells [.Sy (f.next+1)] 213)).get (f.next+1)=some (As TT 18 14 0 tm .ready none f.next):=by rw[Ay _ (Y _ _ Gc)];exact Gc
 have kd:((Bq TT 18 14 0 tm f).new (.cells [.Sy (f.next+1)] 213)).get f.next=some (.deferred true):=by rw[Ay _ (Y _ _ G3)];exact G3
 generalize (Bq TT 18 14 0 tm f).new (.cells [.Sy (f.next+1)] 213)=h3 at x3 k2 kl kd⊢;have aj:=x3.hb L;have E:∀b o,f.get b=some o->h3.get b=some o:=fun b o C=>x3.at L C
 have P3:Fh h3 p ql n q c g ps:=P.ext fun b o C=>E _ _ (x1.at hb0 C)
 simp only[Cy (E _ _ C) rfl,Aa,P3.list];have M3:Mid h0 h3 (fun x=>∃d,d<n/\x=c d) (f.next+1) f.next tm h0.next (h0.next+1) z (f.next+2) false:=
  ⟨Ext.kp (x1.trans x3),⟨kl,E _ _ g3,E _ _ g4,k2,aj⟩,kd,by omega,by omega,by omega⟩
 refine(Bhy (K:=K) H P hb0 hps hZ hn T0 (e:=e) (by omega) hK K 0 h3 _ [] (by omega) (by omega) M3 (by simp only[Ei,reduceIte,Nat.reduceEqDiff]) cj (fun d hd=>by cases hd) rfl).mono ?_;rintro v h4 A;have aa:=A.look.hb _ _ A.look.lp;have nl:∀b o st G,h4.get b=some o->(∀st p,o≠As TT 18 14 0 tm st p f.next)->(h4.put (f.next+1) (As TT 18 14 0 tm st G f.next)).get b=some o:=fun b o st G C al=>by
  rw[Af _ (Be A.look.lp C (fun y=>al _ _ y.symm))];exact C
 have J:∀st G,Kp (fun x=>∃d,d<n/\x=c d) h0 (h4.put (f.next+1) (As TT 18 14 0 tm st G f.next)):=fun st G=>A.kp.Ak (by omega) aa _
 have F:∀st G,HB (h4.put (f.next+1) (As TT 18 14 0 tm st G f.next)):=fun st G=>A.look.hb.put aa _
 have j:∀(B:Ab) (b:Bool),B.get (h0.next+1)=some (.cells [.bool b] 4)->I9 TT [.c (.ptr (h0.next+1) 0) 4] B=some (.bool b,B):=by
  intro B b hg;have hr:Jg B (h0.next+1) 0 1=some [.bool b]:=by unfold Jg;rw[hg];rfl
  unfold I9;simp only[Axa,show TT.size 4=some 1 by kernel_rfl,show TT.agg 4=some false by kernel_rfl,hr]
 cases hf:hasB ps n z with
 | true=>
  rw[hf]at A;refine .inr ⟨A.look.lp,?_⟩;refine Ok.unwind (cQ.2 ⟨by simp,cj⟩) (fun d hd=>by rw[aO]at hd;subst hd;exact nl _ _ _ _ A.cd (by intros;simp[As])) (F _ _) fun B U ao=>?_
  have W:B.get (h0.next+1)=some (.cells [.bool true] 4):=Ar.at U (F _ _) (nl _ _ _ _ A.look.c4 (by intros;simp[As])) (by simp;omega);rw[j B true W];exact .ret ⟨rfl,(J _ _).A37 U fun i hi=>by rw[aO]at hi;omega,U.hb (F _ _)⟩
 | false=>
  rw[hf]at A;refine .inl ⟨A.look.lp,?_⟩;simp only[Zj,dr];refine Ok.Zl (nl _ _ _ _ A.look.c4 (by intros;simp[As])) rfl rfl (by show 0<1;decide) ?_;have ab:h0.next+1<(h4.put (f.next+1) (As TT 18 14 0 tm .exhausted none f.next)).next:=A.look.hb _ _ A.look.c4
  have X:HB ((h4.put (f.next+1) (As TT 18 14 0 tm .exhausted none f.next)).put (h0.next+1) (.cells ([EV.bool false].set 0 (.bool false)) 4)):=(F _ _).put ab _;refine Ok.unwind (cQ.2 ⟨by simp,cj⟩) (fun d hd=>by rw[aO]at hd;subst hd;rw[Af _ (by omega)];exact nl _ _ _ _ A.cd (by intros;simp[As])) X fun B U ao=>?_
  have W:B.get (h0.next+1)=some (.cells [.bool false] 4):=Ar.at U X (Ae _ _ _) (by simp;omega);rw[j B false W];exact .ret ⟨rfl,((J _ _).Ak (by omega) ab _).A37 U fun i hi=>by rw[aO]at hi;omega,U.hb X⟩
end
end
section
def Ej(g:Gm)(z:Int):Int:=if z<0\/g.D*g.Z<=z then -1 else z/g.Z
theorem Jv {g:Gm}(s:Sm g)(z:Int)(G : -9223372036854775808<=z/\z<=9223372036854775807)(h:Ab):Ok (Eu K (gV g) (I z) h) fun v h'=>v=I (Ej g z)/\Ext h h':=by
 have:=s.d0;have:=s.d1;have:=s.z0;have:=s.z1;obtain⟨J,L⟩:=N1 (a:=g.D) (b:=g.Z) (A:=8) (B:=64) (by omega) (by omega) (by omega) (by omega);simp only[Eu,gV,Aa,I,Ad];have C:(h.new (.cells (gL g) 23)).get h.next=some (.cells (gL g) 23):=Ac _ _
 have hn:h.next<(h.new (.cells (gL g) 23)).next:=aE _
 have y:Ext h (h.new (.cells (gL g) 23)):=Ar.new _ _;generalize h.new (.cells (gL g) 23)=E at C hn y⊢;unfold Ej;by_cases F:z<0
 ·simp only[F,aB,Aa,Ad,Ty]
  exact .ret ⟨by rw[aN (.inl trivial)],y⟩
 ·simp only[F,aA,Aa,Ad,C8 C rfl,Am (show(gL g).length=6 from rfl)]
  rw[show EV.agg (gL g)=gV g from rfl,Lh s,Au];simp only[I,Ad,Ty];by_cases h2:g.D*g.Z<=z
  ·simp only[h2,aB,Aa]
   exact .ret ⟨by rw[aN (.inr trivial)],y.Di _⟩
  ·have f:(E.new (.cells (gL g) 23)).get h.next=some (.cells (gL g) 23):=by rw[Ay _ hn];exact C
   have j:Ext h (E.new (.cells (gL g) 23)):=y.Di _;generalize E.new (.cells (gL g) 23)=hc at f j⊢;simp only[h2,aA,Aa,Adb,Cy f rfl,gL,I];rw[Bh6 (by omega) (by omega) (by omega)];exact .ret ⟨by rw[aK (by rintro(x|x)<;>exact x)],j⟩
def upd(ps:Nat->List Int)(d:Nat)(l:List Int):Nat->List Int:=fun e=>if e=d then l else ps e
def Atz(n:Nat)(c:Nat->Nat):Nat->Prop:=fun x=>∃d,d<n/\x=c d
def A25:Dz->Prop
 | .chan ..=>False
 | _=>True
theorem Fh.Blc{p:Nat}{q c:Nat->Nat}{g:Gm}(P:Fh h p ql n q c g ps){b:Nat}(f:h.get b=some o)(j:A25 o):¬Atz n c b:=by
 rintro⟨d,hd,rfl⟩;rw[P.chan d hd]at f;cases f;exact j
theorem Fh.put{p:Nat}{q c:Nat->Nat}{g:Gm}(P:Fh h p ql n q c g ps)(hd:d<n)(l:List Int):Fh (h.put (c d) (.chan g.Z.toNat (l.map I))) p ql n q c g (upd ps d l):=by
 have ne:∀b o,h.get b=some o->A25 o->(h.put (c d) (.chan g.Z.toNat (l.map I))).get b=some o:=fun b o j y=>by
  rw[Af _ (fun e=>P.Blc j y ⟨d,hd,e.symm⟩)];exact j
 refine⟨P.pos,ne _ _ P.Gw trivial,ne _ _ P.row trivial,fun e he=>ne _ _ (P.que e he) trivial,fun e he=>?_,P.inj⟩;unfold upd;by_cases f:e=d
 ·subst f;rw[aN rfl];exact Ae _ _ _
 ·rw[aK f,Af _ (fun x=>f (P.inj _ _ he hd x.symm))];exact P.chan e he
theorem Fh.kp{p:Nat}{q c:Nat->Nat}{g:Gm}(P:Fh h p ql n q c g ps)(hb:HB h)(k:Kp S h h'):Fh h' p ql n q c g ps:=P.ext fun i o g=>k.at hb g
structure R9(n:Nat)(g:Gm)(ps:Nat->List Int):Prop where
 nd:n=g.D.toNat
 sm:Sm g
 cap:∀d,d<n->(ps d).length<=g.Z.toNat
theorem R9.bd{g:Gm}(z:R9 n g ps):n<=8/\g.Z<=64/\(n:Int)=g.D:=by
 have:=z.nd;have:=z.sm.d0;have:=z.sm.d1;have:=z.sm.z1;omega
theorem R9.small{g:Gm}(z:R9 n g ps):Bam n ps:=by
 obtain⟨a,b,_⟩:=z.bd;exact⟨by omega,fun d hd=>by have:=z.cap d hd;omega⟩
theorem R9.upd{g:Gm}(z:R9 n g ps){l:List Int}(f:l.length<=g.Z.toNat):R9 n g (upd ps d l):=
 ⟨z.nd,z.sm,fun e he=>by unfold Ev.upd;split;exact f;exact z.cap e he⟩
def Aq2(g:Gm)(n:Nat)(ps:Nat->List Int)(z:Int):Int × (Nat->List Int):=
 if Ej g z<0 then(13,ps)else if hasB ps n z then(16,ps)else
  if(ps (Ej g z).toNat).length<g.Z.toNat then(0,upd ps (Ej g z).toNat (ps (Ej g z).toNat++[z]))else(17,ps)
theorem Ag6 {g:Gm}(s:Sm g)(z:Int):Ej g z = -1\/(0<=Ej g z/\Ej g z<g.D/\Ej g z=z/g.Z/\0<=z/\z<g.D*g.Z):=by
 have:=s.z0;unfold Ej;split
 ·exact .inl rfl
 ·refine .inr ⟨Int.ediv_nonneg (by omega) (by omega),Int.ediv_lt_of_lt_mul (by omega) (by omega),rfl,by omega,by omega⟩
section
variable (H:Ca disp){p:Nat}{q c:Nat->Nat}{g:Gm}(P:Fh h p ql n q c g ps)(hb:HB h)(Z:R9 n g ps)(hK:5000<K)
include P hb Z hK
theorem A3t(d:Int):Ok (O4 K (.ptr p 0) (I d) h) fun v h'=>Ar (Atz n c) h h'/\HB h'/\∃x e f,v=.tuple [I x,I e]/\Fh h' p ql n q c g f/\R9 n g f /\
 ((d<0\/(n:Int)<=d)/\x=0/\e=13/\f=ps\/(0<=d/\d<n/\ps d.toNat = []/\x=0/\e=15/\f=ps)\/(0<=d/\d<n/\e=0/\∃r,ps d.toNat=x::r/\f=upd ps d.toNat r)):=by
 simp only[O4,I,Ad,Aa];by_cases y:d<0
 ·simp only[y,aB,Aa,Ad,Wv]
  exact .ret ⟨Ar.refl _,hb,0,13,ps,rfl,P,Z,.inl ⟨.inl trivial,rfl,rfl,rfl⟩⟩
 ·simp only[y,aA,Aa,Ad,P.list,Wv]
  by_cases h2:(n:Int)<=d
  ·simp only[h2,aB,Aa]
   exact .ret ⟨Ar.refl _,hb,0,13,ps,rfl,P,Z,.inl ⟨.inr trivial,rfl,rfl,rfl⟩⟩
  ·obtain⟨d,rfl⟩:=bD (show 0<=d by omega)
   have hd:d<n:=by omega
   simp only[h2,aA,Aa,Agf,P.list];rw[P.rowAt.ix hd];simp only[P.A7a hd];cases j:ps d with
   | nil=>
    rw[take_nil (P.que _ hd) (P.chan _ hd) j];simp only[Aa];exact .ret ⟨Ar.refl _,hb,0,15,ps,rfl,P,Z,.inr (.inl ⟨by omega,by omega,j,rfl,rfl,rfl⟩)⟩
   | cons x r=>
    rw[take_cons (P.que _ hd) (P.chan _ hd) j];simp only[Aa];have lt:=hb _ _ (P.chan _ hd);refine .ret ⟨(Ar.refl h).Ak (.inl ⟨_,hd,rfl⟩) lt _,hb.put lt _,x,0,upd ps d r,rfl,P.put hd r,Z.upd ?_,.inr (.inr ⟨by omega,by omega,rfl,r,j,rfl⟩)⟩;have:=Z.cap _ hd;rw[j]at this;simp at this;omega
include H
theorem Bbg(hd:8<=d)(z:Int)(O : -9223372036854775808<=z/\z<=9223372036854775807):Ok (Ag TT disp K d false 67 [.ptr p 0,I z] h) fun v h'=>Ar (Atz n c) h h'/\HB h'/\v=I (Aq2 g n ps z).1/\Fh h' p ql n q c g (Aq2 g n ps z).2/\R9 n g (Aq2 g n ps z).2:=by
 obtain⟨e,rfl⟩:∃k,d=k+1:=⟨d-1,by omega⟩;obtain⟨b1,b2,b3⟩:=Z.bd;rw[Ark H (by omega)];simp only[Aom,Aa,P.A9f];refine(Jv Z.sm z O h).Ap ?_;rintro _ U ⟨rfl,C⟩;have A:=C.hb hb;have E:=P.ext fun i o g=>C.at hb g
 simp only[I,Ad];unfold Aq2;rcases Ag6 Z.sm z with F|⟨d0,d1,d2,d3,d4⟩
 ·rw[F]
  simp only[show(-1:Int)<0 by decide,aB,Aa,bG];exact .ret ⟨Ext.to C,A,rfl,E,Z⟩
 ·have G:¬Ej g z<0:=by omega
  simp only[G,aA,Aa,aY];refine(A9a (K:=K) H E A Z.cap (by omega) (by omega) (d:=e) (by omega) hK z).Ap ?_;rintro _ h2 ⟨rfl,L,y⟩;have j:=E.kp A L;have B:Ar (Atz n c) h h2:=(Ext.to C).trans L.chg;cases W:hasB ps n z with
  | true=>
   simp only[Aa,bG];exact .ret ⟨B,y,rfl,j,Z⟩
  | false=>
   have f:(Ej g z).toNat<n:=by omega
   simp only[Aa,Af3,j.list];rw[show Ej g z=((Ej g z).toNat:Int) by omega,j.rowAt.ix f];simp only[j.A7a f,bK];have lt:=y _ _ (j.chan _ f);by_cases J:(ps (Ej g z).toNat).length<g.Z.toNat
   ·rw[A2m (j.que _ f) (j.chan _ f) z J,Au]
    rw[aN J];refine .ret ⟨B.Ak (.inl ⟨_,f,rfl⟩) lt _,y.put lt _,rfl,j.put f _,Z.upd ?_⟩;rw[aF];simp;omega
   ·rw[Boj (j.que _ f) (j.chan _ f) z (by omega),Au]
    rw[aK J];exact .ret ⟨B,y,rfl,j,Z⟩
end
end
section
def Sz(z:Int)(xs:List Int):List Int:=xs.filter fun x=>decide (¬x=z)
theorem Bhd(z x:Int)(r:List Int):Sz z (x::r)=(if x=z then[]else[x])++Sz z r:=by
 unfold Sz;rw[eh];by_cases h:x=z<;>simp[h]
theorem A9o(z:Int)(a b:List Int):Sz z (a++b)=Sz z a++Sz z b:=eF ..
theorem Bcp(z:Int)(xs:List Int):(Sz z xs).length<=xs.length:=eG _ _
section
variable (H:Ca disp)(hK:5000<K)
include H hK
theorem Bf5(he:1<=e){q c:Nat}{z:Int}(y:h0.get q=some (.cells [.chan c] 266))(f:∃b,h0.get c=some (.chan cap b))(F:h0.get b3=some (.cells [I z] 3))(ab:xs.length<=cap)(ae:cap<=4096)(hb0:HB h0):∀(m i:Nat) (h:Ab),xs.length-i<m->i<=xs.length ->
 h.get c=some (.chan cap ((xs.drop i++Sz z (xs.take i)).map I))->Ar (fun j=>j=c) h0 h->HB h ->
 Ok (Ks (Ag TT disp K e false) (Ag TT disp K e true) K m (.ptr q 0) (.func 265 [] [.ptr b3 0]) (I ((i:Int)-(Sz z (xs.take i)).length)) (I xs.length) (I i) h) fun v h'=>v=I ((xs.length:Int)-(Sz z xs).length)/\h'.get c=some (.chan cap ((Sz z xs).map I))/\Ar (fun j=>j=c) h0 h'/\HB h':=by
 obtain⟨b0,f⟩:=f;have G:q≠c:=Be y f (by simp);have X:b3≠c:=Be F f (by simp);have lc:=hb0 _ _ f;intro m;induction m with
 | zero=>intro i h hm;omega
 | succ m ih=>
  intro i h hm hi hc x hb;simp only[Ks,I,Ad,Aa];by_cases J:(i:Int)<xs.length
  ·have L:i<xs.length:=by omega
   have hq:h.get q=some (.cells [.chan c] 266):=Ar.at x hb0 y G;have O:c<h.next:=aL lc x.next
   have ed:xs.drop i=xs[i]::xs.drop (i+1):=cZ L;have E:Sz z (xs.take (i+1))=Sz z (xs.take i)++(if xs[i]=z then[]else[xs[i]]):=by
    rw[cv L,A9o,Bhd];simp[Sz]
   rw[ed,List.cons_append]at hc;have bl:=Bcp z (xs.take i);rw[bJ]at bl;simp only[J,aB,Aa,Ac3];rw[take_cons hq hc rfl];simp only[Aa,I,Ad,aD,aA,Adl];have U:Ar (fun j=>j=c) h0 (h.put c (.chan cap ((xs.drop (i+1)++Sz z (xs.take i)).map I))):=x.Ak (.inl rfl) O _;have A:HB (h.put c (.chan cap ((xs.drop (i+1)++Sz z (xs.take i)).map I))):=hb.put O _;have B:(h.put c (.chan cap ((xs.drop (i+1)++Sz z (xs.take i)).map I))).get c=some (.chan cap ((xs.drop (i+1)++Sz z (xs.take i)).map I)):=Ae _ _ _;have Y:(h.put c (.chan cap ((xs.drop (i+1)++Sz z (xs.take i)).map I))).next=h.next:=rfl
   generalize h.put c (.chan cap ((xs.drop (i+1)++Sz z (xs.take i)).map I))=h2 at U A B Y⊢;have g3:h2.get b3=some (.cells [I z] 3):=Ar.at U hb0 F X;have C:Rn (Ag TT disp K e false) (Ag TT disp K e true) (.func 265 [] [.ptr b3 0]) [.int .i64 xs[i]] h2=some (.bool (decide (¬xs[i]=z)),h2):=by
    show Ag TT disp K e false 265 [.int .i64 xs[i],.ptr b3 0] h2=_;rw[Anv H he];simp only[Ai9,Cy g3 rfl,Aa,I,Ad]
   rw[C,Au];by_cases W:xs[i]=z
   ·rw[aN W,cR]at E
    simp only[W,aD,aA,Aa,Ad,Og];rw[Cn (n:=(i:Int)-(Sz z (xs.take i)).length+1) (by omega) (by omega),Cn (n:=(i:Int)+1) (by omega) (by omega)];have:=ih (i+1) h2 (by omega) (by omega) (by rw[E];exact B) U A;rw[E]at this;have e3:(i:Int)-(Sz z (xs.take i)).length+1=((i+1:Nat):Int)-(Sz z (xs.take i)).length:=by omega
    rw[e3];exact this
   ·rw[aK W]at E
    simp only[W,aG,aB,Aa,Ad,Acq];have aa:h2.get q=some (.cells [.chan c] 266):=Ar.at U hb0 y G;rw[show EV.int .i64 xs[i]=I xs[i]from rfl,A2m aa B xs[i] (by rw[aF,ak];omega),Au];simp only[Og,Ad];rw[Cn (n:=(i:Int)+1) (by omega) (by omega)];have:=ih (i+1) (h2.put c (.chan cap ((xs.drop (i+1)++Sz z (xs.take i)++[xs[i]]).map I))) (by omega) (by omega) (by rw[E,<-br];exact Ae _ _ _) (U.Ak (.inl rfl) (by omega) _) (A.put (by omega) _);rw[E,aF]at this;have e3:(i:Int)-(Sz z (xs.take i)).length=((i+1:Nat):Int)-((Sz z (xs.take i)).length+[xs[i]].length:Nat):=by simp;omega
    rw[e3];exact this
  ·have:i=xs.length:=by omega
   subst this;rw[List.drop_length,dJ,cM]at hc;rw[cM];simp only[J,aA,Aa,Ug];exact .ret ⟨rfl,hc,x,hb⟩
theorem Bme{p:Nat}{q c:Nat->Nat}{g:Gm}(P:Fh h p ql n q c g ps)(hb:HB h)(Z:R9 n g ps)(hd:4<=d)(z:Int)(hz : -9223372036854775808<=z/\z<=9223372036854775807):
 Ok (Ag TT disp K d false 239 [.ptr p 0,I z] h) fun v h'=>(∃e,v=I e)/\Ar (Atz n c) h h'/\HB h'/\Fh h' p ql n q c g (if Ej g z<0 then ps else upd ps (Ej g z).toNat (Sz z (ps (Ej g z).toNat)))/\R9 n g (if Ej g z<0 then ps else upd ps (Ej g z).toNat (Sz z (ps (Ej g z).toNat))):=by
 obtain⟨e,rfl⟩:∃k,d=k+2:=⟨d-2,by omega⟩;obtain⟨b1,b2,b3⟩:=Z.bd;rw[Arb H (by omega)];simp only[Anw,I,Aa];have O:Ext h (h.new (.cells [.int .i64 z] 3)):=Ar.new _ _;have U:(h.new (.cells [.int .i64 z] 3)).get h.next=some (.cells [I z] 3):=Ac _ _
 have n1:(h.new (.cells [.int .i64 z] 3)).next=h.next+1:=rfl
 generalize h.new (.cells [.int .i64 z] 3)=h1 at O U n1⊢;have B:=O.hb hb;have X:=P.ext fun i o g=>O.at hb g
 have lp:=B _ _ X.Gw;have l3:=B _ _ U;simp only[Aa,Aw,Ah lp,Ah l3,X.A9f,Cy U rfl];refine Ok.Ds (by kernel_rfl) (by kernel_rfl) (Jv Z.sm z hz _) (fun _ _ p=>p.2) ?_;rintro _ _ h2 ⟨rfl,_⟩ _ W;have C:=W.hb B;have A:=X.ext fun i o g=>W.at B g
 have F:=O.trans W;simp only[I,Ad];rcases Ag6 Z.sm z with Y|⟨d0,d1,d2,d3,d4⟩
 ·rw[Y]
  simp only[show(-1:Int)<0 by decide,aB,Aa,Ad,bG,Rg];exact .ret ⟨⟨15,rfl⟩,Ext.to F,C,A,Z⟩
 ·have G:¬Ej g z<0:=by omega
  simp only[G,aA,Aa,Ad,aY,A.list];generalize ao:Ej g z=dm at d0 d1 G;obtain⟨dn,rfl⟩:=bD d0;have f:dn<n:=by omega
  rw[A.rowAt.ix f];simp only[A.A7a f,bK];rw[Anr H (by omega)];simp only[Ajw,dr];rw[A.len f,Au];have J:=A.chan _ f;have:=Bf5 (K:=K) H hK (e:=e) (by omega) (z:=z) (xs:=ps dn) (A.que _ f) ⟨_,J⟩ (W.at B U) (Z.cap _ f) (by omega) C K 0 h2 (by have:=Z.cap _ f;omega) (by omega) (by rw[dA,List.take_zero,show Sz z [] = []from rfl,cR];exact J) (Ar.refl _) C;refine Ok.Ap (P:=fun v h'=>v=I (((ps dn).length:Int)-(Sz z (ps dn)).length)/\h'.get (c dn)=some (.chan g.Z.toNat ((Sz z (ps dn)).map I))/\Ar (fun j=>j=c dn) h2 h'/\HB h') this ?_;rintro _ h3 ⟨rfl,ab,x3,L⟩;simp only[Ad,I];have ch:Ar (Atz n c) h h3:=(Ext.to F).trans (x3.mono fun i hi=>⟨dn,f,hi⟩);have P3:Fh h3 p ql n q c g (upd ps dn (Sz z (ps dn))):=by
   have ne:∀b o,h2.get b=some o->A25 o->h3.get b=some o:=fun b o gb ho=>Ar.at x3 C gb fun e=>A.Blc gb ho ⟨dn,f,e⟩
   refine⟨A.pos,ne _ _ A.Gw trivial,ne _ _ A.row trivial,fun e he=>ne _ _ (A.que e he) trivial,fun e he=>?_,A.inj⟩;unfold upd;by_cases E:e=dn
   ·subst E;rw[aN rfl];exact ab
   ·rw[aK E];exact Ar.at x3 C (A.chan e he) fun y=>E (A.inj _ _ he f y)
  have Z3:R9 n g (upd ps dn (Sz z (ps dn))):=Z.upd (bN (Bcp _ _) (Z.cap _ f));by_cases h0:((ps dn).length:Int)-(Sz z (ps dn)).length=0
  ·simp only[h0,aB,Rg,Aa]
   exact .ret ⟨⟨15,rfl⟩,ch,L,P3,Z3⟩
  ·simp only[h0,aA,Rg,Aa,Ag2]
   exact .ret ⟨⟨0,rfl⟩,ch,L,P3,Z3⟩
end
theorem Avj(ps:Nat->List Int)(b:Int):∀n,(Fx ps b n = -1/\∀d:Nat,d<n->(d:Int)=b)\/(0<=Fx ps b n/\Fx ps b n<n/\¬Fx ps b n=b/\∀d:Nat,d<n->(d:Int)=b\/(ps d).length<=(ps (Fx ps b n).toNat).length)
 | 0=>.inl ⟨rfl,fun d hd=>absurd hd (cT _)⟩
 | n+1=>by
  have A:=Avj ps b n;rw[Arn];unfold A5o;rcases A with⟨f,j⟩|⟨f,j,a3,a4⟩
  ·by_cases hb:(n:Int)=b
   ·rw[aK (fun x=>x.1 hb)]
    exact .inl ⟨f,fun d hd=>by rcases dW.1 hd with h|h;exact j d h;subst h;exact hb⟩
   ·rw[aN ⟨hb,.inl (by omega)⟩]
    refine .inr ⟨by omega,by omega,hb,fun d hd=>?_⟩;rcases dW.1 hd with h|h
    ·exact .inl (j d h)
    ·subst h;exact .inr (by simp)
  ·by_cases hc:¬(n:Int)=b/\(Fx ps b n<0\/(ps (Fx ps b n).toNat).length<(ps n).length)
   ·rw[aN hc]
    refine .inr ⟨by omega,by omega,hc.1,fun d hd=>?_⟩;rcases dW.1 hd with h|h
    ·rcases a4 d h with y|y
     ·exact .inl y
     ·refine .inr ?_
      rcases hc.2 with z|z
      ·omega
      ·simp only[bK];omega
    ·subst h;exact .inr (by simp)
   ·rw[aK hc]
    refine .inr ⟨f,by omega,a3,fun d hd=>?_⟩;rcases dW.1 hd with h|h
    ·exact a4 d h
    ·subst h
     by_cases hb:(d:Int)=b
     ·exact .inl hb
     ·exact .inr (by have:¬(ps (Fx ps b d).toNat).length<(ps d).length:=fun y=>hc ⟨hb,.inr y⟩;omega)
theorem Bbq{a:Nat}:∀n,(∀d,d<n->d=a\/ps d = [])->Ao0 ps n<=(ps a).length
 | 0,_=>by unfold Ao0;simp
 | n+1,h=>by
  rw[Aj0];rcases h n (aE _)with e|e
  ·subst e
   have:Ao0 ps n=0:=by
    have:∀k,k<=n->Ao0 ps k=0:=by
     intro k j;induction k with
     | zero=>rfl
     | succ k f=>
      rw[Aj0,f (by omega)];rcases h k (by omega)with e|e
      ·omega
      ·rw[e];rfl
    exact this n (aC _)
   omega
  ·rw[e];have:=Bbq (a:=a) n fun d hd=>h d (Nat.lt_succ_of_lt hd);simp;omega
theorem A19(h:Zh ps n≠0)(U:0<=Zh ps n):∃a b:Nat,Fx ps (-1) n=a/\Fx ps a n=b/\a<n/\b<n/\a≠b/\ps a≠[]/\ps b≠[]:=by
 have f:0<Zh ps n:=by omega
 unfold Zh at f;rw[Int.lt_min]at f;obtain⟨p1,J⟩:=f;rcases Avj ps (-1) n with⟨L,C⟩|⟨L,C,_,a4⟩
 ·have:n=0:=by
   cases n with
   | zero=>rfl
   | succ n=>have:=C 0 (by omega);omega
  subst this;unfold Ao0 at p1;simp at p1
 ·obtain⟨a,O⟩:=bD L
  rw[O]at C a4 J;have E:a<n:=by omega
  have e1:Auo ps n a=(ps a).length:=by unfold Auo;rw[aN (by omega)];rfl
  rw[e1]at J;have hex:∃d,d<n/\d≠a/\ps d≠[]:=by
   apply Classical.byContradiction;intro F;have:=Bbq (ps:=ps) (a:=a) n fun d hd=>by
    by_cases A:d=a
    ·exact .inl A
    ·refine .inr (Classical.byContradiction fun j=>F ⟨d,hd,A,j⟩)
   omega
  obtain⟨d,hd,A,j⟩:=hex;have G:ps a≠[]:=fun e=>by
   rcases a4 d hd with y|y
   ·omega
   ·rw[bK,e]at y;exact j (bW.1 (by simpa using y))
  rcases Avj ps a n with⟨b1,b2⟩|⟨b1,b2,b3,b4⟩
  ·have:=b2 d hd;omega
  ·obtain⟨b,B⟩:=bD b1
   rw[B]at b2 b3 b4;refine⟨a,b,O,B,E,by omega,by omega,G,fun e=>?_⟩;rcases b4 d hd with y|y
   ·omega
   ·rw[bK,e]at y;exact j (bW.1 (by simpa using y))
theorem Aq5:0<=Zh ps n:=by
 unfold Zh;have:Auo ps n (Fx ps (-1) n)<=Ao0 ps n:=by
  unfold Auo;split
  ·rename_i h
   have:∀m d,d<m->(ps d).length<=Ao0 ps m:=by
    intro m;induction m with
    | zero=>intro d hd;omega
    | succ m f=>
     intro d hd;rw[Aj0];rcases dW.1 hd with h|h
     ·have:=f d h;omega
     ·subst h;omega
   exact this n _ (by omega)
  ·omega
 omega
section
variable{p:Nat}{q c:Nat->Nat}{g:Gm}(P:Fh h p ql n q c g ps)(hb:HB h)(Z:R9 n g ps)(hK:5000<K)
include P hb Z hK
theorem Bku:Ok (Xb K (.ptr p 0) h) fun v h'=>Ar (Atz n c) h h'/\HB h'/\((Zh ps n=0/\v=.tuple [I 0,I 0,I 15]/\Fh h' p ql n q c g ps) \/
 ∃(a b:Nat) (x y:Int) (r s:List Int),¬Zh ps n=0/\Fx ps (-1) n=a/\Fx ps a n=b/\a<n/\b<n/\a≠b/\ps a=x::r/\ps b=y::s/\v=.tuple [I x,I y,I 0]/\Fh h' p ql n q c g (upd (upd ps a r) b s)/\R9 n g (upd (upd ps a r) b s)):=by
 obtain⟨b1,b2,b3⟩:=Z.bd;simp only[Xb,dr];refine(A5u P hb Z.small (by omega)).Ap ?_;rintro _ h1 ⟨rfl,E⟩;have f:=E.hb hb;have F:=P.ext fun i o g=>E.at hb g
 simp only[I,Ad];by_cases G:Zh ps n=0
 ·simp only[G,aB,Aa]
  exact .ret ⟨Ext.to E,f,.inl ⟨trivial,rfl,F⟩⟩
 ·simp only[G,aA,Aa,Ahy]
  obtain⟨a,b,ha,B,J,L,C,O,hb0⟩:=A19 G Aq5;refine(Ar6 F f (by omega) (by omega) (-1)).Ap ?_;rintro _ h2 ⟨rfl,U⟩;have j:=U.hb f;have P2:=F.ext fun i o g=>U.at f g
  rw[ha];refine(Ar6 P2 j (by omega) (by omega) a).Ap ?_;rintro _ h3 ⟨rfl,W⟩;have X:=W.hb j;have P3:=P2.ext fun i o g=>W.at j g
  rw[B];refine(A3t P3 X Z hK a).Ap ?_;rintro _ h4 ⟨c4,Y,x,e,A,rfl,P4,Z4,hh⟩;have hx:e=0/\∃r,ps a=x::r/\A=upd ps a r:=by
   rcases hh with⟨y,_⟩|⟨_,_,y,_⟩|⟨_,_,y,z⟩
   ·omega
   ·rw[bK]at y;exact absurd y O
   ·rw[bK]at z;exact⟨y,z⟩
  obtain⟨rfl,r,ab,rfl⟩:=hx;simp only[Aa];refine(A3t P4 Y Z4 hK b).Ap ?_;rintro _ h5 ⟨c5,ad,y,e,A,rfl,P5,Z5,hh⟩;have eb:upd ps a r b=ps b:=by unfold upd;rw[aK (cN C)]
  have hy:e=0/\∃s,ps b=y::s/\A=upd (upd ps a r) b s:=by
   rcases hh with⟨w,_⟩|⟨_,_,w,_⟩|⟨_,_,w,z⟩
   ·omega
   ·rw[bK,eb]at w;exact absurd w hb0
   ·rw[bK,eb]at z;exact⟨w,z⟩
  obtain⟨rfl,s,ae,rfl⟩:=hy;simp only[Aa,I,Ad,aD,aA,Af7];refine .ret ⟨(Ext.to (E.trans (U.trans W))).trans (c4.trans c5),ad,.inr ⟨a,b,x,y,r,s,not_false,rfl,B,J,L,C,ab,ae,rfl,P5,Z5⟩⟩
end
end
def Lr(st:Nat):Int:=if st=4 then 32 else if st=3 then 30 else 0
theorem Aib{z q:Nat}{size:Int}{Z:Zn}(f:Ft h z q size Z):Ee K (.ptr z 0) h=some (I Z.st,h):=by
 obtain⟨s,g,_⟩:=f.An;simp only[Ee,Aa,Cy g rfl]
theorem Xy{z q:Nat}{size:Int}{Z:Zn}(j:Ft h z q size Z):D6 K (.ptr z 0) h=some (I (Lr Z.st),h):=by
 obtain⟨s,g,_⟩:=j.An;simp only[D6,Aa,Cy g rfl,I,Ad];unfold Lr;by_cases h4:Z.st=4
 ·have:decide ((Z.st:Int)=4)=true:=by simp[h4]
  rw[this,aN h4];simp only[Aa]
 ·have a:decide ((Z.st:Int)=4)=false:=by simp;omega
  rw[a,aK h4];simp only[Aa,Ad];by_cases f:Z.st=3
  ·have:decide ((Z.st:Int)=3)=true:=by simp[f]
   rw[this,aN f];simp only[Aa]
  ·have b:decide ((Z.st:Int)=3)=false:=by simp;omega
   rw[b,aK f];simp only[Aa,Ad,Nd]
theorem Ft.ext{z q:Nat}{size:Int}{Z:Zn}(d:Ft h z q size Z)(g:∀i o,h.get i=some o->h'.get i=some o):Ft h' z q size Z:=by
 obtain⟨s,a,b⟩:=d.An;exact⟨⟨s,g _ _ a,b.frame fun f=>by rw[g _ _ (b.block f),b.block f]⟩,d.wf⟩
def Zn.app(Z:Zn)(size:Nat)(x:List EV):Zn:=⟨Z.l++[x],Z.safe,if Z.l.length+1=size then 2 else 1,Z.fin⟩
theorem Azr{z q size:Nat}{Z:Zn}(zz:Ft h z q size Z)(hb:HB h)(a2:Z.st<2)(U:Z.l.length<=64){x:List EV}(Y:x.length=64):
 Ok (D8 K (.ptr z 0) (.agg x) h) fun v h'=>v=.tuple [I Z.l.length,I 0]/\(∃q',Ft h' z q' size (Z.app size x)/\h.next<=q')/\Ar (fun i=>i=z\/(0<Z.l.length/\i=q)) h h'/\HB h':=by
 obtain⟨s,g,r⟩:=zz.An;simp only[D8,Aa];have W:Ext h (h.new (.cells x 30)):=Ar.new _ _;have g3:(h.new (.cells x 30)).get h.next=some (.cells x 30):=Ac _ _
 have n1:(h.new (.cells x 30)).next=h.next+1:=rfl
 generalize h.new (.cells x 30)=j at W g3 n1⊢;have A:=W.hb hb;have z1:Ft j z q size Z:=zz.ext fun i o g=>W.at hb g
 have g1:=W.at hb g;have r1:Ci j s q 30 64 Z.l.length Z.l.flatten:=r.frame fun U=>by rw[W.at hb (r.block U),r.block U]
 rw[Xy z1,Au];have hf:Lr Z.st=0:=by unfold Lr;rw[aK (by omega),aK (by omega)]
 rw[hf];have h2:¬(Z.st:Int)=2:=by omega
 simp only[Ad,I,aD,aA,Aa,Ii,Cy g1 rfl,h2,Nx];have lz:=A _ _ g1;have l3:=A _ _ g3;simp only[Aa,Aw,Ah lz,Ah l3,Cy g1 rfl,C8 g3 rfl,Am Y];rw[V8 (z:=List.replicate 64 (.int .u8 0)) rfl (by simp) (by exact Y) (by omega),Au];have x2:Ext j (j.new (.cells (EV.cells (.agg x)) 30)):=Ar.new _ _;have gx:(j.new (.cells (EV.cells (.agg x)) 30)).get j.next=some (.cells x 30):=Ac _ _
 have n2:(j.new (.cells (EV.cells (.agg x)) 30)).next=j.next+1:=rfl
 generalize j.new (.cells (EV.cells (.agg x)) 30)=f at x2 gx n2⊢;have E:=x2.hb A;have g2:=x2.at A g1;have r2:Ci f.lift s q 30 64 Z.l.length Z.l.flatten:=(r1.frame (h':=f) fun U=>by rw[x2.at A (r1.block U),r1.block U]).frame fun _=>By _ _
 obtain⟨h3,e3,r3,n3,c3⟩:=Ze (x:=.slice j.next 0 1 1 false) (n:=1) r2 rfl (by omega) (by omega) (by omega) (Xf (b:=j.next) (by rw[By];exact gx) Y) (by rw[Y]);refine Ok.Yh (S:=fun i=>0<Z.l.length/\i=q) (by kernel_rfl) (by kernel_rfl) (fun _=>by kernel_rfl) (P:=fun v h'=>v=.slice f.lift.next 0 (Z.l.length+1) (Z.l.length+1) true/\h'=h3) ⟨_,_,e3,rfl,rfl⟩ (fun _ _ p=>by rw[p.2];exact c3) ?_;rintro _ _ h4 s' ⟨rfl,rfl⟩ sm x4 al;have ad:=x4.hb E;rw[Ai5]at r3 n3;rw[Ai5];have ao:¬(0<Z.l.length/\z=q):=fun y=>by
  have:=r1.block y.1;exact Be g1 this (by simp) y.2
 have g4:h4.get z=some (.cells [s,I size,I Z.safe,I Z.st,.bool Z.fin] 277):=Ar.at x4 E g2 ao;have r4:Ci h4 (.slice f.next 0 (Z.l.length+1) (Z.l.length+1) true) f.next 30 64 (Z.l.length+1) (Z.l.flatten++x):=r3.frame fun _=>sm.get _
 have B:z<h4.next:=ad _ _ g4
 try simp only[Aa]
 rw[Kh (by rcases al with rfl|⟨w,rfl,_⟩<;>kernel_rfl)];refine Ok.Zl g4 rfl rfl (by show 0<5;decide) ?_;refine Ok.Zl (Ae _ _ _) rfl rfl (by show 3<5;decide) ?_;simp only[List.set,Aa];have F:f.next≠z:=by have:=E _ _ g2;omega
 have G:z<((h4.put z (.cells [EV.slice f.next 0 (Z.l.length+1) (Z.l.length+1) true,I size,I Z.safe,I Z.st,.bool Z.fin] 277)).put z (.cells [EV.slice f.next 0 (Z.l.length+1) (Z.l.length+1) true,I size,I Z.safe,.int .i64 1,.bool Z.fin] 277)).next:=B
 have hq:h.next<=f.next:=by omega
 have r5:∀o1 C,Ci ((h4.put z o1).put z C) (.slice f.next 0 (Z.l.length+1) (Z.l.length+1) true) f.next 30 64 (Z.l.length+1) (Z.l.flatten++x):=fun o1 C=>r4.frame fun _=>by rw[Af _ (cN F),Af _ (cN F)]
 have ch:∀o1 C,Ar (fun i=>i=z\/(0<Z.l.length/\i=q)) h ((h4.put z o1).put z C):=fun o1 C=>((((Ext.to (W.trans x2)).trans (x4.mono fun i hi=>.inr hi)).Ak (.inl (.inl rfl)) B _).Ak (.inl (.inl rfl)) B _)
 have aq:∀o1 C,HB ((h4.put z o1).put z C):=fun o1 C=>(ad.put B _).put B _
 have gz:((h4.put z (.cells [EV.slice f.next 0 (Z.l.length+1) (Z.l.length+1) true,I size,I Z.safe,I Z.st,.bool Z.fin] 277)).put z (.cells [EV.slice f.next 0 (Z.l.length+1) (Z.l.length+1) true,I size,I Z.safe,.int .i64 1,.bool Z.fin] 277)).get z=some (.cells [EV.slice f.next 0 (Z.l.length+1) (Z.l.length+1) true,I size,I Z.safe,.int .i64 1,.bool Z.fin] 277):=Ae _ _ _;have J:=r5 (.cells [EV.slice f.next 0 (Z.l.length+1) (Z.l.length+1) true,I size,I Z.safe,I Z.st,.bool Z.fin] 277) (.cells [EV.slice f.next 0 (Z.l.length+1) (Z.l.length+1) true,I size,I Z.safe,.int .i64 1,.bool Z.fin] 277);have L:=ch (.cells [EV.slice f.next 0 (Z.l.length+1) (Z.l.length+1) true,I size,I Z.safe,I Z.st,.bool Z.fin] 277) (.cells [EV.slice f.next 0 (Z.l.length+1) (Z.l.length+1) true,I size,I Z.safe,.int .i64 1,.bool Z.fin] 277);have O:=aq (.cells [EV.slice f.next 0 (Z.l.length+1) (Z.l.length+1) true,I size,I Z.safe,I Z.st,.bool Z.fin] 277) (.cells [EV.slice f.next 0 (Z.l.length+1) (Z.l.length+1) true,I size,I Z.safe,.int .i64 1,.bool Z.fin] 277);generalize (h4.put z (.cells [EV.slice f.next 0 (Z.l.length+1) (Z.l.length+1) true,I size,I Z.safe,I Z.st,.bool Z.fin] 277)).put z (.cells [EV.slice f.next 0 (Z.l.length+1) (Z.l.length+1) true,I size,I Z.safe,.int .i64 1,.bool Z.fin] 277)=h5 at gz J L O G⊢;simp only[Cy gz rfl,Aa,I,Ad];have fin:∀(st:Nat) (X:Ab),st=(Z.app size x).st->X.get z=some (.cells [EV.slice f.next 0 (Z.l.length+1) (Z.l.length+1) true,I size,I Z.safe,I st,.bool Z.fin] 277)->Ci X (.slice f.next 0 (Z.l.length+1) (Z.l.length+1) true) f.next 30 64 (Z.l.length+1) (Z.l.flatten++x)->Ar (fun i=>i=z\/(0<Z.l.length/\i=q)) h X->HB X ->
  Ok (Ig K (.ptr z 0) X) fun v h'=>v=.tuple [I Z.l.length,I 0]/\(∃q',Ft h' z q' size (Z.app size x)/\h.next<=q')/\Ar (fun i=>i=z\/(0<Z.l.length/\i=q)) h h'/\HB h':=by
  rintro st X rfl g6 r6 c6 au;simp only[Ig,Aa,Cy g6 rfl,I,Ad];rw[Cn (by omega) (by omega),show((Z.l.length+1:Nat):Int)-1=(Z.l.length:Int) by omega];refine .ret ⟨rfl,⟨f.next,⟨⟨_,g6,?_⟩,fun y hy=>by
   rcases bL.1 hy with hy|hy
   ·exact zz.wf y hy
   ·rw[aO.1 hy];exact Y⟩,hq⟩,c6,au⟩
  have e1:(Z.app size x).l.length=Z.l.length+1:=by simp[Zn.app]
  have e2:(Z.app size x).l.flatten=Z.l.flatten++x:=by simp[Zn.app]
  rw[e1,e2];exact r6
 by_cases hs:Z.l.length+1=size
 ·have:((Z.l.length+1:Nat):Int)=(size:Int):=by omega
  simp only[this,aB,Aa];refine Ok.Zl gz rfl rfl (by show 3<5;decide) ?_;refine fin 2 _ (by simp[Zn.app,hs]) (Ae _ _ _) (J.frame fun _=>Af _ (cN F)) (L.Ak (.inl (.inl rfl)) G _) (O.put G _)
 ·have:¬((Z.l.length+1:Nat):Int)=(size:Int):=by omega
  simp only[this,aA,Aa];exact fin 1 _ (by simp[Zn.app,hs]) gz J L O
theorem Ayd{z q:Nat}{size:Int}{Z:Zn}(A:Ft h z q size Z)(hb:HB h)(B:2<=Z.st)(h4:Z.st<=4)(x:List EV):
 Ok (D8 K (.ptr z 0) (.agg x) h) fun v h'=>v=.tuple [I 0,I (if Z.st=2 then 17 else Lr Z.st)]/\Ext h h':=by
 simp only[D8,Aa];have f:Ext h (h.new (.cells x 30)):=Ar.new _ _;generalize h.new (.cells x 30)=C at f⊢;have z1:Ft C z q size Z:=A.ext fun i o g=>f.at hb g
 rw[Xy z1,Au];obtain⟨s,g,_⟩:=z1.An;by_cases h2:Z.st=2
 ·have j:Lr Z.st=0:=by unfold Lr;rw[aK (by omega),aK (by omega)]
  have y:(Z.st:Int)=2:=by omega
  rw[j];simp only[Ad,I,aD,aA,Aa,Ii,Cy g rfl,y,aB,h2,bG];exact .ret ⟨rfl,f⟩
 ·have j:¬Lr Z.st=0:=by
   unfold Lr;split
   ·decide
   ·split
    ·decide
    ·omega
  simp only[Ad,I,j,aG,aB,Aa,h2,aY];exact .ret ⟨rfl,f⟩
theorem Fu{l:List EV}(f:h.get i=some (.cells l t))(hs:TT.size t=some n)(j:TT.agg t=some true)(y:l.length=n):I9 TT [.c (.ptr i 0) t,.v v] h=some (.tuple [.agg l,v],h):=by
 have A:Jg h i 0 n=some l:=by
  unfold Jg;rw[f];simp only;rw[<-Ag1];exact Am y
 unfold I9;simp only[Axa,hs,A,j]
theorem Aw3:TT.size 30=some 64/\TT.agg 30=some true:=⟨by kernel_rfl,by kernel_rfl⟩
def Uo:List EV:=List.replicate 64 (.int .u8 0)
theorem Kt:Uo.length=64:=by simp[Uo]
theorem Bib:∀(l:List (List EV)) (j:Nat),(∀x∈l,x.length=64)->j<l.length->∃x,l[j]? = some x/\x.length=64/\Mh l.flatten (j*64) 64=some x:=by
 intro l;induction l with
 | nil=>intro j _ hj;cases hj
 | cons y l B=>
  intro j hw hj;have F:=hw y (aV ..);cases j with
  | zero=>
   refine⟨y,rfl,F,?_⟩;rw[bm,Fc (by simp[F]),fG,dA,dG (by omega),bP (by omega)]
  | succ j=>
   obtain⟨x,e1,e2,e3⟩:=B j (fun x f=>hw x (aT _ f)) (by simpa using hj);refine⟨x,by simpa using e1,e2,?_⟩;have G:j*64+64<=l.flatten.length:=by
    rcases dH l.flatten.length (j*64+64)with C|E
    ·rw[Ag1]at e3
     exfalso;have:(l.flatten.drop (j*64)).length<64:=by rw[ak];omega
     revert e3;have hlen:l.flatten.length=l.length*64:=by
      clear B hj e1 C this;have A:∀x∈l,x.length=64:=fun x f=>hw x (aT _ f)
      clear hw;induction l with
      | nil=>rfl
      | cons a l B=>rw[bm,aF,B fun x f=>A x (aT _ f),A a (aV ..),bH];omega
     have:j+1<=l.length:=by simp at hj;omega
     omega
    ·exact E
   rw[Fc G]at e3;rw[bm,Fc (by rw[aF];omega),show(j+1)*64=y.length+j*64 by omega,List.drop_append,<-e3,cr (by omega),dJ];simp
def Agl(Z:Zn)(off:Int):List EV × Int:=if Z.st=4 then(Uo,32)else if 0<=off/\off<Z.l.length then((Z.l[off.toNat]?).getD Uo,0)else(Uo,31)
theorem Bfq {Z:Zn}(wf:∀x∈Z.l,x.length=64)(off:Int):(Agl Z off).1.length=64:=by
 unfold Agl;split
 ·exact Kt
 ·split
  ·rename_i hc
   have:off.toNat<Z.l.length:=by omega
   rw[aH this];exact wf _ (bF _)
  ·exact Kt
theorem A2i{z q:Nat}{size:Int}{Z:Zn}(G:Ft h z q size Z)(hb:HB h)(off:Int):
 Ok (Ht K (.ptr z 0) (I off) h) fun v h'=>v=.tuple [.agg (Agl Z off).1,I (Agl Z off).2]/\Ext h h':=by
 simp only[Ht,Aa];have y:Ext h ((h.new (.cells (List.replicate 64 (.int .u8 0)) 30)).new (.cells (List.replicate 64 (.int .u8 0)) 30)):=(Ar.new _ _).Di _;have A:((h.new (.cells (List.replicate 64 (.int .u8 0)) 30)).new (.cells (List.replicate 64 (.int .u8 0)) 30)).get h.next=some (.cells Uo 30):=by
  rw[Ay _ (aE _)];exact Ac _ _
 have f:((h.new (.cells (List.replicate 64 (.int .u8 0)) 30)).new (.cells (List.replicate 64 (.int .u8 0)) 30)).get (h.new (.cells (List.replicate 64 (.int .u8 0)) 30)).next=some (.cells Uo 30):=Ac _ _
 generalize L:(h.new (.cells (List.replicate 64 (.int .u8 0)) 30)).next=U at f⊢
 generalize (h.new (.cells (List.replicate 64 (.int .u8 0)) 30)).new (.cells (List.replicate 64 (.int .u8 0)) 30)=B at y A f⊢;have C:=y.hb hb;have z1:Ft B z q size Z:=G.ext fun i o g=>y.at hb g
 obtain⟨s,g,r⟩:=z1.An;have O:=C _ _ A;have fin:∀(l:List EV) (e:Int),l.length=64->(l,e)=Agl Z off->Ok (stE 64 (.ptr h.next 0) (.agg l) B fun h=>I9 TT [.c (.ptr h.next 0) 30,.v (I e)] h) (fun v h'=>True)->True:=fun _ _ _ _ _=>trivial
 clear fin;have fin:∀(l:List EV) (e:Int) (kk:Ab->R),(∀h',kk h'=I9 TT [.c (.ptr h.next 0) 30,.v (I e)] h')->l.length=64->(l,e)=Agl Z off->Ok (stE 64 (.ptr h.next 0) (.agg l) B kk) fun v h'=>v=.tuple [.agg (Agl Z off).1,I (Agl Z off).2]/\Ext h h':=by
  intro l e kk E F he;refine Ok.st l A rfl (by rw[show EV.cells (.agg l)=l from rfl,Bf,F]) (Bm (by rw[Kt];exact F.symm)) ?_;rw[E,Fu (Ae _ _ _) Aw3.1 Aw3.2 F,<-he];exact .ret ⟨rfl,y.Ak (.inr (aC _)) O _⟩
 simp only[Cy g rfl,Aa,I,Ad,C8 f rfl,Am Kt];by_cases h4:Z.st=4
 ·rw[show decide ((Z.st:Int)=4)=true by simp[h4]]
  simp only[Aa];exact fin Uo 32 _ (fun _=>rfl) Kt (by unfold Agl;rw[aN h4])
 ·rw[show decide ((Z.st:Int)=4)=false by simp;omega]
  simp only[Aa];by_cases h0:off<0
  ·simp only[h0,aB,Aa,Je,C8 f rfl,Am Kt]
   exact fin Uo 31 _ (fun _=>rfl) Kt (by unfold Agl;rw[aK h4,aK (by omega)])
  ·simp only[h0,aA,Aa,r.Hz,Ad,Je]
   by_cases J:(Z.l.length:Int)<=off
   ·simp only[J,aB,Aa,C8 f rfl,Am Kt]
    exact fin Uo 31 _ (fun _=>rfl) Kt (by unfold Agl;rw[aK h4,aK (by omega)])
   ·simp only[J,aA,Aa,Ox,Cy g rfl]
    have hj:off.toNat<Z.l.length:=by omega
    obtain⟨j,rfl⟩:∃j:Nat,off=j:=⟨off.toNat,by omega⟩;rw[show(j:Int).toNat=j from rfl]at hj;obtain⟨x,f1,f2,f3⟩:=Bib Z.l j G.wf hj;rw[r.ix hj];simp only[C8 (r.block (by omega)) rfl,f3,Aa];refine fin x 0 _ (fun _=>rfl) f2 ?_;unfold Agl;rw[aK h4,aN (by omega),show(j:Int).toNat=j from rfl,f1];rfl
theorem Ft.put{z q:Nat}{size:Int}{Z:Zn}(f:Ft h z q size Z){s:EV}(g:h.get z=some (.cells [s,I size,I Z.safe,I Z.st,.bool Z.fin] 277))(safe st:Nat)(fin:Bool):
 Ft (h.put z (.cells [s,I size,I safe,I st,.bool fin] 277)) z q size ⟨Z.l,safe,st,fin⟩:=by
 obtain⟨s',j,r⟩:=f.An;rw[g]at j;have:s=s':=by
  have:=fK j;injection this with a _;exact(List.cons.inj a).1
 subst this;refine⟨⟨s,Ae _ _ _,r.frame fun y=>Af _ ?_⟩,f.wf⟩;exact Be g (r.block y) (by simp)
def Zn.flush(Z:Zn):Zn:={ Z with safe:=Z.l.length }
theorem A0d{z q:Nat}{size:Int}{Z:Zn}(f:Ft h z q size Z)(hb:HB h):
 Ok (G6 K (.ptr z 0) h) fun v h'=>Ft h' z q size Z.flush/\Ar (fun i=>i=z) h h'/\HB h':=by
 obtain⟨s,g,r⟩:=f.An;have j:=hb _ _ g;simp only[G6,Aa,Cy g rfl,r.Hz];refine Ok.Zl g rfl rfl (by show 2<5;decide) ?_;refine .ret ⟨?_,(Ar.refl (S:=fun i=>i=z) h).Ak (.inl rfl) j _,hb.put j _⟩;exact f.put g Z.l.length Z.st Z.fin
def Zn.finish(Z:Zn):Zn:={ Z with st:=2,fin:=true }
theorem Ay4{z q:Nat}{size:Int}{Z:Zn}(f:Ft h z q size Z)(hb:HB h):
 Ok (Gy K (.ptr z 0) h) fun v h'=>v=I (Lr Z.st)/\Ft h' z q size (if Lr Z.st=0 then Z.finish else Z)/\Ar (fun i=>i=z) h h'/\HB h':=by
 obtain⟨s,g,r⟩:=f.An;have j:=hb _ _ g;simp only[Gy,Xy f,Aa,I,Ad];by_cases y:Lr Z.st=0
 ·simp only[y,aD,aA,Aa,bG,Ns]
  refine Ok.Zl g rfl rfl (by show 3<5;decide) ?_;refine Ok.Zl (Ae _ _ _) rfl rfl (by show 4<5;decide) ?_;refine .ret ⟨rfl,?_,((Ar.refl (S:=fun i=>i=z) h).Ak (.inl rfl) j _).Ak (.inl rfl) j _,(hb.put j _).put j _⟩;exact(f.put g Z.safe 2 Z.fin).put (Ae _ _ _) Z.safe 2 true
 ·simp only[y,aG,aB,Aa,aY]
  exact .ret ⟨rfl,f,Ar.refl _,hb⟩
def Zn.fail(Z:Zn)(st:Nat):Zn:=if st=4\/st=3/\¬Z.st=4 then { Z with st:=st }else Z
theorem A3d{z q:Nat}{size:Int}{Z:Zn}(f:Ft h z q size Z)(hb:HB h)(st:Nat):
 Ok (Hu K (.ptr z 0) (I st) h) fun v h'=>Ft h' z q size (Z.fail st)/\Ar (fun i=>i=z) h h'/\HB h':=by
 obtain⟨s,g,r⟩:=f.An;have j:=hb _ _ g;have yes:(st=4\/st=3/\¬Z.st=4)->Ok (stE 1 (.ptr z 3) (I st) h fun h=>some (.tuple [],h)) fun v h'=>Ft h' z q size (Z.fail st)/\Ar (fun i=>i=z) h h'/\HB h':=by
  intro hc;refine Ok.Zl g rfl rfl (by show 3<5;decide) ?_;refine .ret ⟨?_,(Ar.refl (S:=fun i=>i=z) h).Ak (.inl rfl) j _,hb.put j _⟩;unfold Zn.fail;rw[aN hc];exact f.put g Z.safe st Z.fin
 have no:¬(st=4\/st=3/\¬Z.st=4)->Ok (some (.tuple [],h)) fun v h'=>Ft h' z q size (Z.fail st)/\Ar (fun i=>i=z) h h'/\HB h':=by
  intro hc;refine .ret ⟨?_,Ar.refl _,hb⟩;unfold Zn.fail;rw[aK hc];exact f
 simp only[Hu,I,Ad,Aa];by_cases a:st=4
 ·rw[show decide ((st:Int)=4)=true by simp[a]]
  simp only[Aa,Ad,Gj,Ex,Ez];exact yes (.inl a)
 ·rw[show decide ((st:Int)=4)=false by simp;omega]
  simp only[Aa,Ad];by_cases b:st=3
  ·rw[show decide ((st:Int)=3)=true by simp[b]]
   simp only[Aa,Ad,Gj,Cy g rfl,I];by_cases c:Z.st=4
   ·rw[show decide (¬(Z.st:Int)=4)=false by simp[c]]
    simp only[Aa,Ad,Ex,Ez];exact no (by omega)
   ·rw[show decide (¬(Z.st:Int)=4)=true by simp;omega]
    simp only[Aa,Ad,Ex,Ez];exact yes (.inr ⟨b,c⟩)
  ·rw[show decide ((st:Int)=3)=false by simp;omega]
   simp only[Aa,Ad,Gj,Ex,Ez];exact no (by omega)
theorem Ws{b sz:Nat}{x:EV}{new:List EV}(j:lenOf x=some n)(f:n<=65536)(hc:O1 h sz n x=some new)(hs:new.length=n*sz)(q:Nat):
 Ok (Em e sz (.slice b 0 0 0 false) x h) fun v h'=>∃q',Ci h' v q' e sz n new/\Ext h h'/\(0<n->h.next<=q'):=by
 rcases dS n with rfl|A
 ·have:new = []:=bW.1 (by omega)
  subst this;refine⟨.slice b 0 0 0 false,h,?_,q,.empty _ _ _ _ _,Ar.refl _,fun y=>by omega⟩;unfold Em;simp only[j,G8];rfl
 ·obtain⟨h',e1,r,C,c⟩:=Ze (s:=.slice b 0 0 0 false) (q:=q) (e:=e) (.empty h b q e sz) j A f (cU _) hc hs
  refine⟨_,h',e1,h.next,?_,c.mono fun i B=>absurd B.1 (bS _),fun _=>aC _⟩;rw[dJ]at r;simpa only[bC]using r
end Go.Ev
