import Derived.Test.YtokpnommcenoaaaGreatWa
import Derived.Test.YtokpnommcenoaaaGreatDa
import Derived.Test.YtokpnommcenoaaaGreatDc
set_option linter.all false
namespace Go.Ev
open Go.Proofs
set_option maxRecDepth 100000
variable {a b x op cnt zones:Int}{k:Ab->List Nat->R}{ex:Nat->Ab->List Nat->R}{S:Nat->Prop}{h h' h0:Ab}{D K V d e i n t b2 b3 b4 d0 l0 ql zl cap:Nat}{o:By}{T:Hh}{down:Bool}{ps:Nat->List Int}{v F7 happened:EV}{marks:List (EV × EV)}{xs:List Int}{tm tm1:Bb}{disp:Nat->Option FT}
section
noncomputable def Av(T:Hh)(g n i:Nat)(tm:Bb)(st:LoopState)(p:Option Code)(d:Nat):By:=.loop st p g n tm (Ek T g i).2.1 (Ek T g i).2.2.1 (Ek T g i).2.2.2 d
noncomputable def Ca(T:Hh)(g n i:Nat)(tm:Bb)(h:Ab):Ab:=(h.new (.deferred true)).new (Av T g n i tm .ready none h.next)
section
variable{g l:Nat}{st:LoopState}{p:Option Code}{Q:EV->Ab->Prop}
theorem Hp:(Ca T g n i tm h).get (h.next+1)=some (Av T g n i tm .ready none h.next):=Ad _ _
theorem Je:(Ca T g n i tm h).get h.next=some (.deferred true):=by
 unfold Ca;rw[Ay _ (aR _)];exact Ad _ _
theorem Hg:Ext h (Ca T g n i tm h):=(Au.new _ _).C8 _
theorem A0i:(Ca T g n i tm h).next=h.next+2:=rfl
theorem W6 {kk:Ab->R}(f:h.get l=some (Av T g n i tm .ready p d)):Et l h kk=kk (h.put l (Av T g n i tm .busy p d)):=by
 unfold Et;rw[f];rfl
theorem Np {b:Bool}{st':LoopState}{j:Option Code}(f:h.get l=some (Av T g n i tm st p d)):V6 l b st' j h=some (.bool b,h.put l (Av T g n i tm st' j d)):=by
 unfold V6;rw[f];rfl
theorem Ok.range {c:Ai}{q:Nat}{f:List EV}{ds:List Nat}{ret:Ab->List Nat->R}
 (hc:Ok (c q (.U1 (h.next+1)::f) (Ca T g n i tm h)) fun _ h'=>
  (h'.get (h.next+1)=some (Av T g n i tm .ready none h.next)/\Ok (k (h'.put (h.next+1) (Av T g n i tm .exhausted none h.next)) (h.next::ds)) Q) \/
  (h'.get (h.next+1)=some (Av T g n i tm .done (some .ret) h.next)/\Ok (ret (h'.put (h.next+1) (Av T g n i tm .exhausted (some .ret) h.next)) (h.next::ds)) Q)) :
 Ok (Uv c T g n i (.func q [] f) tm h ds k ex ret) Q:=by
 obtain⟨v,h',e,j⟩:=hc;have:Uv c T g n i (.func q [] f) tm h ds k ex ret=Bay (h.next+1) (c q (.U1 (h.next+1)::f) (Ca T g n i tm h)) (fun h'=>k h' (h.next::ds)) (fun id h'=>ex id h' (h.next::ds)) (fun h'=>ret h' (h.next::ds)):=rfl;rw[this,e];unfold Bay;simp only;rcases j with⟨a,b⟩|⟨a,b⟩
 ·rw[a];exact b
 ·rw[a];exact b
theorem Ok.unwind:∀{ds:List Nat} {h:Ab} {k:Ab->R},ds.Nodup->(∀d∈ds,h.get d=some (.deferred true))->HB h->(∀h',Au (fun i=>i∈ds) h h'->h'.next=h.next->Ok (k h') Q)->Ok (Fi ds h k) Q
 | [],h,k,_,_,_,j=>j h (Au.refl _) rfl
 | d::ds,h,k,hn,hd,hb,j=>by
  obtain⟨A,B⟩:=cV.1 hn;have f:=hd d aV;have ld:=hb _ _ f;have e:Fi (d::ds) h k=Fi ds (h.put d (.deferred false)) k:=by
   show(match h.get d with|some (.deferred true)=>Fi ds (h.put d (.deferred false)) k|_=>none)=_;rw[f]
  rw[e];refine Ok.unwind B (fun x C=>?_) (hb.put ld _) fun h' c n=>j h' ?_ (by rw[n];rfl)
  ·rw[Af _ (fun y=>A (by rw[y];exact C))];exact hd x (aT _ C)
  ·exact((Au.refl h).Ao (S:=fun i=>i∈d::ds) (.inl aV) ld _).trans (c.mono fun i E=>aT _ E)
end
structure Kp(S:Nat->Prop)(h0 h:Ab):Prop where
 chg:Au S h0 h
 same:∀i,i<h0.next->h.get i=h0.get i
theorem Kp.refl(h:Ab):Kp S h h:=⟨Au.refl _,fun _ _=>rfl⟩
theorem Ext.kp(x:Ext h0 h):Kp S h0 h:=⟨Ext.to x,fun i f=>x.get i f id⟩
theorem Kp.trans{a b c:Ab}(x:Kp S a b)(y:Kp S b c):Kp S a c:=⟨x.chg.trans y.chg,fun i f=>by rw[y.same i (aN f x.chg.next),x.same i f]⟩
theorem Kp.Ao(x:Kp S h0 h)(f:h0.next<=i)(hn:i<h.next)(o:By):Kp S h0 (h.put i o):=
 ⟨x.chg.Ao (.inr f) hn o,fun j hj=>by rw[Af _];exact x.same j hj⟩
theorem Kp.at(x:Kp S h0 h)(hb:HB h0)(g:h0.get i=some o):h.get i=some o:=by rw[x.same i (hb _ _ g)];exact g
theorem Kp.A8b {T:Nat->Prop}{a b c:Ab}(x:Kp S a b)(y:Au T b c)(st:∀i,T i->a.next<=i):Kp S a c:=
 ⟨x.chg.then y fun i f A=>by have:=st i f;omega,fun i f=>by rw[y.get i (aN f x.chg.next) fun j=>by have:=st i j;omega,x.same i f]⟩
end
section
structure Gm where
 D:Int
 Z:Int
 S:Int
 B:Int
 P:Int
 O:Int
def gL(g:Gm):List EV:=[I g.D,I g.Z,I g.S,I g.B,I g.P,I g.O]
def gV(g:Gm):EV:=.agg (gL g)
def Gm.parts(g:Gm):Int:=1+(g.B+1)/2
def Gm.Aln(g:Gm):Int:=g.D*g.P+4
def Gm.least(g:Gm):Int:=min ((g.D-1)*(g.Z-g.P-2)-g.Aln+1) (g.D*(g.Z-g.P-2)-2*g.Aln+1)
def Gm.segments(g:Gm):Int:=g.least/2-1-g.D*g.P
def wi(n a b:Int):Bool:=decide (a<=n)&&decide (n<=b)
theorem N4 {n:Int}:wi n a b=true↔a<=n/\n<=b:=by simp[wi]
def smB(g:Gm):Bool:=wi g.D 3 8&&wi g.Z 1 64&&wi g.S 4 64&&wi g.B 1 256&&wi g.P 0 4&&wi g.O 4 64
def rtB(g:Gm):Bool:=smB g&&(decide (g.parts<=g.S)&&decide (2*g.B<=g.S*g.segments))
structure Sm(g:Gm):Prop where
 d0:3<=g.D
 d1:g.D<=8
 z0:1<=g.Z
 z1:g.Z<=64
 s0:4<=g.S
 s1:g.S<=64
 b0:1<=g.B
 b1:g.B<=256
 p0:0<=g.P
 p1:g.P<=4
 o0:4<=g.O
 o1:g.O<=64
theorem V8 {g:Gm}(h:smB g=true):Sm g:=by
 simp only[smB,bL,N4]at h;exact⟨h.1.1.1.1.1.1,h.1.1.1.1.1.2,h.1.1.1.1.2.1,h.1.1.1.1.2.2,h.1.1.1.2.1,h.1.1.1.2.2,h.1.1.2.1,h.1.1.2.2,h.1.2.1,h.1.2.2,h.2.1,h.2.2⟩
theorem Ul {g:Gm}(h:rtB g=true):Sm g:=V8 (by unfold rtB at h;exact((bL _ _).mp h).1)
theorem N3 {A B:Int}(h0:0<=a)(f:a<=A)(h2:0<=b)(j:b<=B):0<=a*b/\a*b<=A*B:=
 ⟨Int.mul_nonneg h0 h2,Int.mul_le_mul f j h2 (Int.le_trans h0 f)⟩
theorem Az8 {A B:Int}(h0:0<=a)(f:a<=A)(h2 : -B<=b)(j:b<=B)(y:0<=B): -(A*B)<=a*b/\a*b<=A*B:=by
 have e1:a*b<=a*B:=eA j h0;have e2:a*B<=A*B:=Int.mul_le_mul_of_nonneg_right f y;have e3:a*(-B)<=a*b:=eA h2 h0;rw[Int.mul_neg]at e3;omega
theorem Buu{k:EV->R}:Agi (bin T .shr t) (.int .i64 a) (.int .u64 1) k=k (.int .i64 (a/2)):=by
 cases a with
 | ofNat a=>
  show k (.int .i64 (.ofNat (Nat.shiftRight a 1)))=_;rw[show Nat.shiftRight a 1=a/2 from Nat.shiftRight_succ a 0];rfl
 | negSucc a=>
  show k (.int .i64 ((Int.negSucc a).fdiv (.ofNat 2)))=_;rw[fG _ (by decide)];rfl
theorem Bqv(a b:Int):ltB a b=decide (a<b):=by rw[<-Bew,Axb]
theorem min2{j:Array TypeId}:builtin T .min j [.int .i64 a,.int .i64 b] h=some (.int .i64 (min a b),h):=by
 simp only[builtin,Ac4,Bc,Bqv];rw[Bpa];by_cases f:b<a
 ·rw[aQ f,Int.min_eq_right (by omega)]
 ·rw[aM f,Int.min_eq_left (by omega)]
theorem Xi(n a b:Int)(h:Ab):Jq K (I n) (I a) (I b) h=some (.bool (wi n a b),h):=by
 simp only[Jq,Aqs,I,Ac,Br3];by_cases f:a<=n
 ·simp only[f,aB,Aj,dz,A1x,wi,bD]
 ·simp only[f,aA,Bc,dz,A1x,wi,ak]
theorem A3n(g:Gm)(h:Ab):Vp K (gV g) h=some (.bool (smB g),h.new (.cells (gL g) 23)):=by
 simp only[Vp,gV,Aa];have f:(h.new (.cells (gL g) 23)).get h.next=some (.cells (gL g) 23):=Ad _ _
 generalize h.new (.cells (gL g) 23)=j at f⊢;have w:=fun n a b=>Xi (K:=K) n a b j
 simp only[I]at w;simp only[Aa,Cz f rfl,gL,I,w,Ac];unfold smB;cases wi g.D 3 8 with
 | false=>simp only[Aa,Ac,Gx,Gt,Gv,Gs,Gu,ak]
 | true=>
 simp only[Aa,Cz f rfl,gL,I,w,Ac,Gx];cases wi g.Z 1 64 with
 | false=>simp only[Aa,Ac,Gx,Gt,Gv,Gs,Gu,ak,eD]
 | true=>
 simp only[Aa,Cz f rfl,gL,I,w,Ac,Gt];cases wi g.S 4 64 with
 | false=>simp only[Aa,Ac,Gx,Gt,Gv,Gs,Gu,ak,eD]
 | true=>
 simp only[Aa,Cz f rfl,gL,I,w,Ac,Gv];cases wi g.B 1 256 with
 | false=>simp only[Aa,Ac,Gx,Gt,Gv,Gs,Gu,ak,eD]
 | true=>
 simp only[Aa,Cz f rfl,gL,I,w,Ac,Gs];cases wi g.P 0 4 with
 | false=>simp only[Aa,Ac,Gx,Gt,Gv,Gs,Gu,ak,eD]
 | true=>
 simp only[Aa,Cz f rfl,gL,I,w,Ac,Gu,bD]
theorem Aaz {g:Gm}(s:Sm g)(h:Ab):Ie K (gV g) h=some (I g.parts,h.new (.cells (gL g) 23)):=by
 have:=s.b0;have:=s.b1;simp only[Ie,gV,Aa];have f:(h.new (.cells (gL g) 23)).get h.next=some (.cells (gL g) 23):=Ad _ _
 generalize h.new (.cells (gL g) 23)=j at f⊢;simp only[Aa,Cz f rfl,gL,I,Ac];rw[Cg (n:=g.B+2) (by omega) (by omega),Cg (n:=g.B+2-1) (by omega) (by omega),Boh (by omega) (by omega) (by omega)];simp only[Ac];rw[Cg];rw[show 1+(g.B+2-1)/2=g.parts by unfold Gm.parts;rw[show g.B+2-1=g.B+1 by omega]]
theorem Anh {g:Gm}(s:Sm g)(h:Ab):Nh K (gV g) h=some (I g.Aln,h.new (.cells (gL g) 23)):=by
 have:=s.d0;have:=s.d1;have:=s.p0;have:=s.p1;obtain⟨j,y⟩:=N3 (a:=g.D) (b:=g.P) (A:=8) (B:=4) (by omega) (by omega) (by omega) (by omega);simp only[Nh,gV,Aa];have f:(h.new (.cells (gL g) 23)).get h.next=some (.cells (gL g) 23):=Ad _ _
 generalize h.new (.cells (gL g) 23)=C at f⊢;simp only[Aa,Cz f rfl,gL,I,Ac];rw[Cg (n:=g.D*g.P) (by omega) (by omega),Cg];rfl
theorem Ni {g:Gm}(s:Sm g)(h:Ab):Dp K (gV g) h=some (I (g.D*g.Z),h.new (.cells (gL g) 23)):=by
 have:=s.d0;have:=s.d1;have:=s.z0;have:=s.z1;obtain⟨j,y⟩:=N3 (a:=g.D) (b:=g.Z) (A:=8) (B:=64) (by omega) (by omega) (by omega) (by omega);simp only[Dp,gV,Aa];have f:(h.new (.cells (gL g) 23)).get h.next=some (.cells (gL g) 23):=Ad _ _
 generalize h.new (.cells (gL g) 23)=C at f⊢;simp only[Aa,Cz f rfl,gL,I,Ac];rw[Cg (n:=g.D*g.Z) (by omega) (by omega)]
theorem Sm.Boo {g:Gm}(s:Sm g):(0<=g.D*g.P/\g.D*g.P<=32)/\(-640<=(g.D-1)*(g.Z-g.P-2)/\(g.D-1)*(g.Z-g.P-2)<=640)/\(-640<=g.D*(g.Z-g.P-2)/\g.D*(g.Z-g.P-2)<=640):=by
 have:=s.d0;have:=s.d1;have:=s.p0;have:=s.p1;have:=s.z0;have:=s.z1;obtain⟨a0,f⟩:=N3 (a:=g.D) (b:=g.P) (A:=8) (B:=4) (by omega) (by omega) (by omega) (by omega);obtain⟨b0,b1⟩:=Az8 (a:=g.D-1) (b:=g.Z-g.P-2) (A:=10) (B:=64) (by omega) (by omega) (by omega) (by omega) (by omega);obtain⟨j,c1⟩:=Az8 (a:=g.D) (b:=g.Z-g.P-2) (A:=10) (B:=64) (by omega) (by omega) (by omega) (by omega) (by omega);omega
theorem Axl {g:Gm}(s:Sm g)(h:Ab):Ok (Pm K (gV g) h) fun v h'=>v=I g.segments/\Ext h h':=by
 obtain⟨⟨a0,J⟩,⟨b0,b1⟩,L,c1⟩:=s.Boo;have:=s.d0;have:=s.d1;have:=s.p0;have:=s.p1;have:=s.z0;have:=s.z1;simp only[Pm,gV,Aa];have j:(h.new (.cells (gL g) 23)).get h.next=some (.cells (gL g) 23):=Ad _ _
 have hn:h.next<(h.new (.cells (gL g) 23)).next:=aR _
 have y:Ext h (h.new (.cells (gL g) 23)):=Au.new _ _;generalize h.new (.cells (gL g) 23)=B at j hn y⊢;simp only[Aa,Ar,Ce hn,Cz j rfl,Cy j rfl,Ak (show(gL g).length=6 from rfl),gL,I,Ac];rw[Cg (n:=g.Z-g.P) (by omega) (by omega),Cg (n:=g.Z-g.P-2) (by omega) (by omega)];refine Ok.bE (P:=fun v h2=>v=I g.Aln/\Ext B.lift h2) ⟨_,_,Anh s _,rfl,Au.new _ _⟩ (fun _ _ p=>p.2) ?_;rintro _ h2 C ⟨rfl,_⟩ _ A;have f:C.get h.next=some (.cells (gL g) 23):=by rw[A.get _ hn id];exact j
 simp only[Aa,Cz f rfl,gL,I,Ac];unfold Gm.Aln;rw[Cg (n:=g.D-1) (by omega) (by omega),Cg (n:=(g.D-1)*(g.Z-g.P-2)) (by omega) (by omega),Cg (n:=(g.D-1)*(g.Z-g.P-2)-(g.D*g.P+4)) (by omega) (by omega),Cg (n:=(g.D-1)*(g.Z-g.P-2)-(g.D*g.P+4)+1) (by omega) (by omega),
  Cg (n:=g.D*(g.Z-g.P-2)) (by omega) (by omega),Cg (n:=2*(g.D*g.P+4)) (by omega) (by omega),Cg (n:=g.D*(g.Z-g.P-2)-2*(g.D*g.P+4)) (by omega) (by omega),Cg (n:=g.D*(g.Z-g.P-2)-2*(g.D*g.P+4)+1) (by omega) (by omega),
  min2,Ap,Buu]
 simp only[Ac,Aa,Cz f rfl,gL,I];have E:g.least=min ((g.D-1)*(g.Z-g.P-2)-(g.D*g.P+4)+1) (g.D*(g.Z-g.P-2)-2*(g.D*g.P+4)+1):=rfl;rw[<-E];have F : -10000<=g.least:=by omega
 have G:g.least<=10000:=by omega
 rw[Cg (n:=g.least/2-1) (by omega) (by omega),Cg (n:=g.D*g.P) (by omega) (by omega),Cg (n:=g.least/2-1-g.D*g.P) (by omega) (by omega)];exact .ret ⟨rfl,y.trans A⟩
end
theorem Bob {g:Gm}(s:Sm g): -2000<=g.segments/\g.segments<=2000:=by
 obtain⟨⟨a0,f⟩,⟨b0,b1⟩,j,c1⟩:=s.Boo;have y:g.least=min ((g.D-1)*(g.Z-g.P-2)-(g.D*g.P+4)+1) (g.D*(g.Z-g.P-2)-2*(g.D*g.P+4)+1):=rfl;have hs:g.segments=g.least/2-1-g.D*g.P:=rfl;omega
theorem Vg(g:Gm)(h:Ab):Ok (Ms K (gV g) h) fun v h'=>v=.bool (rtB g)/\Ext h h':=by
 simp only[Ms,gV,Aa];have y:(h.new (.cells (gL g) 23)).get h.next=some (.cells (gL g) 23):=Ad _ _
 have hn:h.next<(h.new (.cells (gL g) 23)).next:=aR _
 have E:Ext h (h.new (.cells (gL g) 23)):=Au.new _ _;generalize h.new (.cells (gL g) 23)=L at y hn E⊢;simp only[Aa,Ar,Ce hn,Cz y rfl,Cy y rfl,Ak (show(gL g).length=6 from rfl)];refine Ok.bE (P:=fun v h2=>v=.bool (smB g)/\Ext L.lift h2) ⟨_,_,A3n g _,rfl,Au.new _ _⟩ (fun _ _ p=>p.2) ?_;rintro _ h2 G ⟨rfl,_⟩ _ F;have C:G.get h.next=some (.cells (gL g) 23):=by rw[F.get _ hn id];exact y
 unfold rtB;cases hs:smB g with
 | false=>simp only[Aa,Ac,P7,Lr,ak];exact .ret ⟨rfl,E.trans F⟩
 | true=>
 have s:=V8 hs;have:=s.b0;have:=s.b1;simp only[Aa,Ac,Ar,Ce hn,Cz C rfl,Cy C rfl,Ak (show(gL g).length=6 from rfl),bD];refine Ok.bE (P:=fun v h4=>v=I g.parts/\Ext G.lift h4) ⟨_,_,Aaz s _,rfl,Au.new _ _⟩ (fun _ _ p=>p.2) ?_;rintro _ h4 O ⟨rfl,_⟩ _ U;have f:=F.trans U;have j:O.get h.next=some (.cells (gL g) 23):=by rw[f.get _ hn id];exact y
 simp only[Aa,Ac,Ar,Ce hn,Cz j rfl,gL,I,P7];by_cases J:g.parts<=g.S
 ·simp only[J,aB,Aa,Ar,Ce hn,Cz j rfl,Cy j rfl,Ak (show(gL g).length=6 from rfl),gL,I,Ac,bD]
  refine Ok.bE (Axl s _) (fun _ _ p=>p.2) ?_;rintro _ X Y ⟨rfl,_⟩ _ W;obtain⟨t0,t1⟩:=Bob s;have:=s.s0;have:=s.s1;obtain⟨m0,m1⟩:=Az8 (a:=g.S) (b:=g.segments) (A:=64) (B:=2000) (by omega) (by omega) (by omega) (by omega) (by omega);simp only[Ac,I,Lr,Aa];rw[Cg (n:=2*g.B) (by omega) (by omega),Cg (n:=g.S*g.segments) (by omega) (by omega)];exact .ret ⟨rfl,E.trans (f.trans W)⟩
 ·simp only[J,aA,Aa,Ac,Lr,ak]
  exact .ret ⟨rfl,E.trans f⟩
theorem Brc {n:Int}(h0 : -100000<=n)(f:n<=100000)(h:Ab):Ou K (I n) h=some (I (n/2),h):=by
 simp only[Ou,I,Ac,Aa];by_cases hn:n<0
 ·simp only[hn,aB,Aa,Ac]
  rw[Cg,Boh (by omega) (by omega) (by omega)];simp only[Blc];rw[Cg,show 0-(1-n)/2=n/2 by omega]
 ·simp only[hn,aA,Aa,X3]
  rw[Boh (by omega) (by omega) (by omega)]
theorem A85 {g:Gm}(s:Sm g){a:Nat}(j:h.get a=some (.cells (gL g) 114)):∀(m:Nat) (i:Int),0<=i->(g.B-i).toNat<m->i<=g.B+1->i%2=0 ->
 F1 K m (.ptr a 0) (I (1+i/2)) (I i) h=some (I g.parts,h):=by
 have:=s.b0;have:=s.b1;intro m;induction m with
 | zero=>intro i _ hm;omega
 | succ m y=>
  intro i C hm hle A;simp only[F1,Aa,Ac,Cz j rfl,gL,I];by_cases f:i<g.B
  ·simp only[f,aB,Aa,Ac,T2,T5]
   rw[Cg (n:=1+i/2+1) (by omega) (by omega),Cg (n:=i+2) (by omega) (by omega),show 1+i/2+1=1+(i+2)/2 by omega];exact y (i+2) (by omega) (by omega) (by omega) (by omega)
  ·simp only[f,aA,Aa,T3]
   unfold Gm.parts;rw[show 1+i/2=1+(g.B+1)/2 by omega]
theorem Bhu {g:Gm}(s:Sm g)(hK:1000<K)(h:Ab):K7 K (gV g) h=some (I g.parts,h.new (.cells (gL g) 114)):=by
 have:=s.b0;have:=s.b1;simp only[K7,gV,Aa];exact A85 s (Ad _ _) K 0 (by omega) (by omega) (by omega) (by omega)
theorem A8i {g:Gm}(s:Sm g)(h:Ab):Ok (Ik K (gV g) h) fun v h'=>v=I g.segments/\Ext h h':=by
 obtain⟨⟨a0,F⟩,⟨b0,b1⟩,G,c1⟩:=s.Boo;have:=s.d0;have:=s.d1;have:=s.p0;have:=s.p1;have:=s.z0;have:=s.z1;simp only[Ik,gV,Aa];have j:(h.new (.cells (gL g) 114)).get h.next=some (.cells (gL g) 114):=Ad _ _
 have hn:h.next<(h.new (.cells (gL g) 114)).next:=aR _
 have A:Ext h (h.new (.cells (gL g) 114)):=Au.new _ _;generalize h.new (.cells (gL g) 114)=B at j hn A⊢;have J:g.least=min ((g.D-1)*(g.Z-g.P-2)-(g.D*g.P+4)+1) (g.D*(g.Z-g.P-2)-2*(g.D*g.P+4)+1):=rfl;have fin:∀n,n=g.least->Ok (J7 K (.ptr h.next 0) (I n) B) fun v h'=>v=I g.segments/\Ext h h':=by
  rintro _ rfl;simp only[J7,Aa];refine Ok.bE (P:=fun v h2=>v=I (g.least/2)/\Ext B.lift h2) ⟨_,_,Brc (by omega) (by omega) _,rfl,Au.refl _⟩ (fun _ _ p=>p.2) ?_;rintro _ h2 E ⟨rfl,_⟩ _ C;have y:E.get h.next=some (.cells (gL g) 114):=by rw[C.get _ hn id];exact j
  simp only[Aa,Ar,Ce hn,Cz y rfl,gL,I,Ac];rw[Cg (n:=g.least/2-1) (by omega) (by omega),Cg (n:=g.D*g.P) (by omega) (by omega),Cg (n:=g.least/2-1-g.D*g.P) (by omega) (by omega)];exact .ret ⟨rfl,A.trans C⟩
 simp only[Aa,Cz j rfl,gL,I,Ac];rw[Cg (n:=g.Z-g.P) (by omega) (by omega),Cg (n:=g.Z-g.P-2) (by omega) (by omega),Cg (n:=g.D*g.P) (by omega) (by omega),Cg (n:=g.D*g.P+4) (by omega) (by omega),
  Cg (n:=g.D-1) (by omega) (by omega),Cg (n:=(g.D-1)*(g.Z-g.P-2)) (by omega) (by omega),Cg (n:=(g.D-1)*(g.Z-g.P-2)-(g.D*g.P+4)) (by omega) (by omega),Cg (n:=(g.D-1)*(g.Z-g.P-2)-(g.D*g.P+4)+1) (by omega) (by omega),
  Cg (n:=g.D*(g.Z-g.P-2)) (by omega) (by omega),Cg (n:=2*(g.D*g.P+4)) (by omega) (by omega),Cg (n:=g.D*(g.Z-g.P-2)-2*(g.D*g.P+4)) (by omega) (by omega),Cg (n:=g.D*(g.Z-g.P-2)-2*(g.D*g.P+4)+1) (by omega) (by omega)]
 by_cases f:g.D*(g.Z-g.P-2)-2*(g.D*g.P+4)+1<(g.D-1)*(g.Z-g.P-2)-(g.D*g.P+4)+1
 ·simp only[f,aB,Aa]
  exact fin _ (by omega)
 ·simp only[f,aA,Aa]
  exact fin _ (by omega)
theorem Bj9(g:Gm)(hK:1000<K)(h:Ab):Ok (Hz K (gV g) h) fun v h'=>v=.bool (rtB g)/\Ext h h':=by
 simp only[Hz,gV,Aa];have j:(h.new (.cells (gL g) 114)).get h.next=some (.cells (gL g) 114):=Ad _ _
 have hn:h.next<(h.new (.cells (gL g) 114)).next:=aR _
 have C:Ext h (h.new (.cells (gL g) 114)):=Au.new _ _;generalize h.new (.cells (gL g) 114)=W at j hn C⊢;have no:∀b,b=false->Ok (some (.bool false,W)) fun v h'=>v=.bool (b&&(decide (g.parts<=g.S)&&decide (2*g.B<=g.S*g.segments)))/\Ext h h':=by
  rintro _ rfl;exact .ret ⟨by rw[ak],C⟩
 unfold rtB;have f:∀{p:Prop} [Decidable p],¬p->(smB g=true->p)->smB g=false:=fun E hq=>by
  cases hb:smB g with
  | false=>rfl
  | true=>exact absurd (hq hb) E
 simp only[Aa,Cz j rfl,gL,I,Ac];by_cases c1:g.D<3
 ·simp only[c1,aB,Aa,Ac,Ht,Fq,Eo,D8,Ds,C0,Cr,Cl,Cf,Bx,Bq]
  exact no _ (f (p:=¬g.D<3) (by simpa using c1) fun hb=>by have:=(V8 hb).d0;omega)
 simp only[c1,aA,Aa,Ac,Cz j rfl,gL,I,Ht];by_cases c2:8<g.D
 ·simp only[c2,aB,Aa,Ac,Fq,Eo,D8,Ds,C0,Cr,Cl,Cf,Bx,Bq]
  exact no _ (f (p:=¬8<g.D) (by simpa using c2) fun hb=>by have:=(V8 hb).d1;omega)
 simp only[c2,aA,Aa,Ac,Cz j rfl,gL,I,Fq];by_cases c3:g.Z<1
 ·simp only[c3,aB,Aa,Ac,Eo,D8,Ds,C0,Cr,Cl,Cf,Bx,Bq]
  exact no _ (f (p:=¬g.Z<1) (by simpa using c3) fun hb=>by have:=(V8 hb).z0;omega)
 simp only[c3,aA,Aa,Ac,Cz j rfl,gL,I,Eo];by_cases c4:64<g.Z
 ·simp only[c4,aB,Aa,Ac,D8,Ds,C0,Cr,Cl,Cf,Bx,Bq]
  exact no _ (f (p:=¬64<g.Z) (by simpa using c4) fun hb=>by have:=(V8 hb).z1;omega)
 simp only[c4,aA,Aa,Ac,Cz j rfl,gL,I,D8];by_cases c5:g.S<4
 ·simp only[c5,aB,Aa,Ac,Ds,C0,Cr,Cl,Cf,Bx,Bq]
  exact no _ (f (p:=¬g.S<4) (by simpa using c5) fun hb=>by have:=(V8 hb).s0;omega)
 simp only[c5,aA,Aa,Ac,Cz j rfl,gL,I,Ds];by_cases F:64<g.S
 ·simp only[F,aB,Aa,Ac,C0,Cr,Cl,Cf,Bx,Bq]
  exact no _ (f (p:=¬64<g.S) (by simpa using F) fun hb=>by have:=(V8 hb).s1;omega)
 simp only[F,aA,Aa,Ac,Cz j rfl,gL,I,C0];by_cases G:g.B<1
 ·simp only[G,aB,Aa,Ac,Cr,Cl,Cf,Bx,Bq]
  exact no _ (f (p:=¬g.B<1) (by simpa using G) fun hb=>by have:=(V8 hb).b0;omega)
 simp only[G,aA,Aa,Ac,Cz j rfl,gL,I,Cr];by_cases J:256<g.B
 ·simp only[J,aB,Aa,Ac,Cl,Cf,Bx,Bq]
  exact no _ (f (p:=¬256<g.B) (by simpa using J) fun hb=>by have:=(V8 hb).b1;omega)
 simp only[J,aA,Aa,Ac,Cz j rfl,gL,I,Cl];by_cases L:g.P<0
 ·simp only[L,aB,Aa,Ac,Cf,Bx,Bq]
  exact no _ (f (p:=¬g.P<0) (by simpa using L) fun hb=>by have:=(V8 hb).p0;omega)
 simp only[L,aA,Aa,Ac,Cz j rfl,gL,I,Cf];by_cases d1:4<g.P
 ·simp only[d1,aB,Aa,Ac,Bx,Bq]
  exact no _ (f (p:=¬4<g.P) (by simpa using d1) fun hb=>by have:=(V8 hb).p1;omega)
 simp only[d1,aA,Aa,Ac,Cz j rfl,gL,I,Bx];by_cases d2:g.O<4
 ·simp only[d2,aB,Aa,Ac,Bq]
  exact no _ (f (p:=¬g.O<4) (by simpa using d2) fun hb=>by have:=(V8 hb).o0;omega)
 simp only[d2,aA,Aa,Ac,Cz j rfl,gL,I,Bq];by_cases d3:64<g.O
 ·simp only[d3,aB,Aa]
  exact no _ (f (p:=¬64<g.O) (by simpa using d3) fun hb=>by have:=(V8 hb).o1;omega)
 have hs:smB g=true:=by
  simp only[smB,bL,N4];omega
 have s:=V8 hs;rw[hs];simp only[d3,aA,Aa,Ac,T6,Ar,Ce hn,Cy j rfl,Ak (show(gL g).length=6 from rfl),bD];refine Ok.bE (P:=fun v h4=>v=I g.parts/\Ext W.lift h4) ⟨_,_,Bhu s hK _,rfl,Au.new _ _⟩ (fun _ _ p=>p.2) ?_;rintro _ h4 X ⟨rfl,_⟩ _ U;have y:X.get h.next=some (.cells (gL g) 114):=by rw[U.get _ hn id];exact j
 simp only[Aa,Ac,Ar,Ce hn,Cz y rfl,gL,I];by_cases E:g.parts<=g.S
 ·simp only[E,aB,Aa,Ar,Ce hn,Cz y rfl,Cy y rfl,Ak (show(gL g).length=6 from rfl),gL,I,Ac,bD]
  refine Ok.bE (A8i s _) (fun _ _ p=>p.2) ?_;rintro _ h6 h7 ⟨rfl,_⟩ _ Y;obtain⟨t0,t1⟩:=Bob s;have:=s.s0;have:=s.s1;have:=s.b0;have:=s.b1;obtain⟨m0,m1⟩:=Az8 (a:=g.S) (b:=g.segments) (A:=64) (B:=2000) (by omega) (by omega) (by omega) (by omega) (by omega);simp only[Ac,I,Ij,Aa];rw[Cg (n:=2*g.B) (by omega) (by omega),Cg (n:=g.S*g.segments) (by omega) (by omega)];exact .ret ⟨rfl,C.trans (U.trans Y)⟩
 ·simp only[E,aA,Aa,Ac,Ij,ak]
  exact .ret ⟨rfl,C.trans U⟩
theorem A6w(f:1<=n)(h2:n<=4096)(h:Ab):Aro K (I n) h=some (.tuple [.ptr (h.next+1) 0,I 0],(h.new (.chan n [])).new (.cells [.chan h.next] 266)):=by
 simp only[Aro,I,Ac,Aa];have a:¬(n:Int)<1:=by omega
 have b:¬(4096:Int)<(n:Int):=by omega
 simp only[a,b,aA,Aa,Ac,Au0,Avu];have hm:Arn (.int .i64 (n:Int)) h=some (.chan h.next,h.new (.chan n [])):=by
  show Ax (Nat.ble n 65536) _ none=_;rw[aO (by omega),Aj]
 rw[hm,Ap,Aw (l:=[.chan h.next]) rfl];simp only[Aa];rfl
structure E0(h:Ab)(p ql n:Nat)(q c:Nat->Nat)(g:Gm)(ps:Nat->List Int):Prop where
 pos:0<n
 Gd:h.get p=some (.cells (gL g++[.slice ql 0 n n true]) 198)
 row:h.get ql=some (.vec ((List.range n).map fun d=>.ptr (q d) 0) 199 1)
 que:∀d,d<n->h.get (q d)=some (.cells [.chan (c d)] 266)
 chan:∀d,d<n->h.get (c d)=some (.chan g.Z.toNat ((ps d).map I))
 inj:∀d e,d<n->e<n->c d=c e->d=e
structure Bck(h0 h:Ab)(p ql i:Nat)(q c:Nat->Nat)(g:Gm)(s:EV):Prop where
 Gd:h.get p=some (.cells (gL g++[s]) 198)
 row:Cc h s ql 199 1 i ((List.range i).map fun d=>.ptr (q d) 0)
 que:∀d,d<i->h.get (q d)=some (.cells [.chan (c d)] 266)
 chan:∀d,d<i->h.get (c d)=some (.chan g.Z.toNat [])
 inj:∀d e,d<i->e<i->c d=c e->d=e
 new:h0.next<=p/\(0<i->h0.next<=ql)/\∀d,d<i->h0.next<=q d/\h0.next<=c d
 ext:Ext h0 h
 hb:HB h
theorem A3e {g:Gm}(s:Sm g)(h0:Ab){b p:Nat}(Y:b<h0.next)(hg:h0.get b=some (.cells (gL g) 23)):∀(m i:Nat) (ql:Nat) (q c:Nat->Nat) (B:EV) (h:Ab),g.D.toNat-i<m->i<=g.D.toNat->Bck h0 h p ql i q c g B ->
 Ok (Abi K m (.ptr b 0) (.ptr p 0) (I g.D) (I i) h) fun v h'=>v=.tuple [.ptr p 0,I 0]/\Ext h0 h'/\HB h'/\∃ql q c B,Bck h0 h' p ql g.D.toNat q c g B:=by
 have:=s.d0;have:=s.d1;have:=s.z0;have:=s.z1;intro m;induction m with
 | zero=>intro i _ _ _ _ _ hm;omega
 | succ m ih=>
  intro i ql q c B h hm hi P;simp only[Abi,I,Ac,Aa];by_cases J:(i:Int)<g.D
  ·have aa:h.get b=some (.cells (gL g) 23):=by rw[P.ext.get _ Y id];exact hg
   simp only[J,aB,Aa,Ayw,Cz aa rfl,gL,I];have hq:=A6w (K:=K) (n:=g.Z.toNat) (by omega) (by omega) h;rw[fM (by omega)]at hq;simp only[I]at hq;simp only[hq,Aa,Ac,aC,aA,Ayt];have e1:Ext h ((h.new (.chan g.Z.toNat [])).new (.cells [.chan h.next] 266)):=(Au.new _ _).trans (Au.new _ _);have y:HB ((h.new (.chan g.Z.toNat [])).new (.cells [.chan h.next] 266)):=(P.hb.new _).new _;have gq:((h.new (.chan g.Z.toNat [])).new (.cells [.chan h.next] 266)).get (h.next+1)=some (.cells [.chan h.next] 266):=Ad _ _;have gc:((h.new (.chan g.Z.toNat [])).new (.cells [.chan h.next] 266)).get h.next=some (.chan g.Z.toNat []):=by rw[Ay _ (aR _)];exact Ad _ _
   have n1:((h.new (.chan g.Z.toNat [])).new (.cells [.chan h.next] 266)).next=h.next+2:=rfl
   generalize (h.new (.chan g.Z.toNat [])).new (.cells [.chan h.next] 266)=A at e1 y gq gc n1⊢;have gp:A.get p=some (.cells (gL g++[B]) 198):=e1.at P.hb P.Gd;have F:Cc A B ql 199 1 i ((List.range i).map fun d=>.ptr (q d) 0):=P.row.frame fun hl=>e1.get _ (P.hb _ _ (P.row.block hl)) id
   have lp:=P.hb _ _ P.Gd;rw[Cz gp rfl,show(gL g++[B])[6]? = some B from rfl,Gr];refine L0 (z:=[.Bu]) F y rfl rfl rfl (by omega) (by omega) ?_;intro h2 G n2 c2;have n0:=P.ext.next
   have C:∀x o,A.get x=some o->(∀l e sz,o≠.vec l e sz)->¬(0<i/\x=ql):=by
    rintro x o X L ⟨hl,rfl⟩;rw[F.block hl]at X;cases X;exact L _ _ _ rfl
   have U:h2.get p=some (.cells (gL g++[B]) 198):=c2.at y gp (C _ _ gp (by intros;simp));refine Ok.st (gL g++[EV.slice (A.next+1) 0 (i+1) (i+1) true]) U rfl rfl rfl ?_;simp only[Ayk,I,Ac];rw[Cg];have hE:Ext h h2->Ext h0 h2:=fun x=>P.ext.trans x
   have x2:Ext h0 h2:=by
    refine(P.ext.trans e1).then c2 fun j hj J=>?_
    have:=(P.new.2.1 hj.1);omega
   have x3:Ext h0 (h2.put p (.cells (gL g++[EV.slice (A.next+1) 0 (i+1) (i+1) true]) 198)):=x2.Ao (.inr P.new.1) (by have:=c2.next;omega) _;have ae:=c2.hb y;have af:HB (h2.put p (.cells (gL g++[EV.slice (A.next+1) 0 (i+1) (i+1) true]) 198)):=ae.put (by have:=c2.next;omega) _;have Cv:∀x o,h.get x=some o->(∀l e sz,o≠.vec l e sz)->x≠p->(h2.put p (.cells (gL g++[EV.slice (A.next+1) 0 (i+1) (i+1) true]) 198)).get x=some o:=by
    intro x o X L ag;rw[Af _ (cT ag)];have W:=e1.at P.hb X;exact c2.at y W (C _ _ W L)
   have aq:h.next<A.next:=by omega
   have P':Bck h0 (h2.put p (.cells (gL g++[EV.slice (A.next+1) 0 (i+1) (i+1) true]) 198)) p (A.next+1) (i+1) (fun d=>if d=i then h.next+1 else q d) (fun d=>if d=i then h.next else c d) g (.slice (A.next+1) 0 (i+1) (i+1) true):=by
    refine⟨Ae _ _ _,?_,?_,?_,?_,⟨P.new.1,fun _=>by omega,?_⟩,x3,af⟩
    ·have:(List.range (i+1)).map (fun d=>EV.ptr (if d=i then h.next+1 else q d) 0)=((List.range i).map fun d=>EV.ptr (q d) 0)++EV.cells (.ptr (h.next+1) 0):=by
      rw[dJ,bm];congr 1
      ·refine cZ fun d hd=>?_
       rw[aM (by have:=eU.1 hd;omega)]
      ·simp[EV.cells]
     rw[this];refine G.frame fun _=>Af _ ?_
     have:=G.block (by omega);exact Ba U this (by simp)
    ·intro d hd
     by_cases f:d=i
     ·subst f
      simp only[bI];rw[Af _];exact c2.at y gq (C _ _ gq (by intros;simp))
     ·simp only[f,aY]
      have:=P.que d (by omega);exact Cv _ _ this (by intros;simp) (Ba this P.Gd (by simp))
    ·intro d hd
     by_cases f:d=i
     ·subst f
      simp only[bI];rw[Af _];exact c2.at y gc (C _ _ gc (by intros;simp))
     ·simp only[f,aY]
      have:=P.chan d (by omega);exact Cv _ _ this (by intros;simp) (Ba this P.Gd (by simp))
    ·intro d e hd he E
     have lc:=fun d (hd:d<i)=>P.hb _ _ (P.chan d hd)
     by_cases f:d=i<;>by_cases O:e=i
     ·omega
     ·simp only[f,O,bI,aY]at E;have:=lc e (by omega);omega
     ·simp only[f,O,bI,aY]at E;have:=lc d (by omega);omega
     ·simp only[f,O,aY]at E;exact P.inj d e (by omega) (by omega) E
    ·intro d hd
     by_cases f:d=i
     ·subst f;simp only[bI];omega
     ·simp only[f,aY];exact P.new.2.2 d (by omega)
   exact ih (i+1) _ _ _ _ _ (by omega) (by omega) P'
  ·have:i=g.D.toNat:=by omega
   subst this;simp only[J,aA,Aa,Aye];exact .ret ⟨rfl,P.ext,P.hb,ql,q,c,B,P⟩
theorem A5y {g:Gm}(U:rtB g=true)(hK:1000<K)(hb:HB h):Ok (Aj4 K (gV g) h) fun v h'=>∃p ql q c,v=.tuple [.ptr p 0,I 0]/\Ext h h'/\HB h'/\E0 h' p ql g.D.toNat q c g (fun _=>[])/\h.next<=p/\h.next<=ql/\∀d,d<g.D.toNat->h.next<=q d/\h.next<=c d:=by
 have s:=Ul U;have:=s.d0;have:=s.d1;simp only[Aj4,gV,Aa];have G:(h.new (.cells (gL g) 23)).get h.next=some (.cells (gL g) 23):=Ad _ _
 have hn:h.next<(h.new (.cells (gL g) 23)).next:=aR _
 have F:Ext h (h.new (.cells (gL g) 23)):=Au.new _ _;generalize h.new (.cells (gL g) 23)=X at G hn F⊢;simp only[Cy G rfl,Ak (show(gL g).length=6 from rfl),Aa];refine(Vg g X).Am ?_;rintro _ h2 ⟨rfl,y⟩;rw[U];have j:h2.get h.next=some (.cells (gL g) 23):=by rw[y.get _ hn id];exact G
 have A:h.next<h2.next:=aN hn y.next
 simp only[Aa,Ayn,Cy j rfl,Ak (show(gL g).length=6 from rfl)];rw[Aw (l:=gL g++[.Al]) rfl];simp only[Aa];have J:=(y.hb (F.hb hb));have B:(h2.new (.cells (gL g++[.Al]) 198)).get h.next=some (.cells (gL g) 23):=by rw[Ay _ A];exact j
 have C:(h2.new (.cells (gL g++[.Al]) 198)).get h2.next=some (.cells (gL g++[.Al]) 198):=Ad _ _
 have W:Ext h2 (h2.new (.cells (gL g++[.Al]) 198)):=Au.new _ _;have E:HB (h2.new (.cells (gL g++[.Al]) 198)):=J.new _;have n3:h2.next<(h2.new (.cells (gL g++[.Al]) 198)).next:=aR _
 generalize h2.new (.cells (gL g++[.Al]) 198)=Y at B C W E n3⊢;simp only[Cz B rfl,gL,Aa,I];refine(A3e (K:=K) (p:=h2.next) s h2 A j K 0 0 (fun _=>0) (fun _=>0) .Al Y (by omega) (by omega) ⟨C,.nil _ _ _ _,fun d hd=>absurd hd (cn _),fun d hd=>absurd hd (cn _),fun d e hd=>absurd hd (cn _),⟨aD _,fun x=>absurd x (bS _),fun d hd=>absurd hd (cn _)⟩,W,E⟩).mono ?_;rintro v h' ⟨rfl,x4,L,ql,q,c,sl,P⟩;refine⟨h2.next,ql,q,c,rfl,F.trans (y.trans x4),L,?_⟩;have f:0<g.D.toNat:=by omega
 have O:=P.row.slice f;subst O;have t:=F.next
 have t2:=y.next
 exact⟨⟨f,P.Gd,P.row.block f,P.que,P.chan,P.inj⟩,by omega,by have:=P.new.2.1 f;omega,fun d hd=>by have:=P.new.2.2 d hd;omega⟩
theorem A84 {g:Gm}(f:rtB g=false)(h:Ab):Ok (Aj4 K (gV g) h) fun v h'=>v=.tuple [.Bu,I 20]/\Ext h h':=by
 simp only[Aj4,gV,Aa];obtain⟨j,y,A,B,_⟩:=nW h (.cells (gL g) 23);rw[y];simp only[Cy B rfl,Ak (show(gL g).length=6 from rfl),Aa];refine(Vg g j).Am ?_;rintro _ h2 ⟨rfl,C⟩;rw[f];simp only[Aa];exact .ret ⟨rfl,A.trans C⟩
theorem A0y(n a:Int)(h:Ab):Abt K (I n) (I a) h=some (.bool (wi n 1 a),h):=by
 simp only[Abt,I,Ac,Aa];by_cases f:1<=n
 ·simp only[f,aB,Aa,Ac,Afj,wi,bD]
 ·simp only[f,aA,Aa,Ac,Afj,wi,ak]
def Vl(size:Int):By:=.cells [.Al,I size,I 0,I 0,.bool false] 277
theorem A6o {size:Int}(f:1<=size)(h2:size<=64)(h:Ab):Md K (I size) h=some (.tuple [.ptr h.next 0,I 0],h.new (Vl size)):=by
 have a:¬size<1:=by omega
 have b:¬64<size:=by omega
 simp only[Md,I,Ac,Aa,a,b,aA,Vf,U7];rw[Aw (l:=[.Al,I size,I 0,I 0,.bool false]) rfl];simp only[Aa];rfl
structure Zn where
 l:List (List EV)
 safe:Nat
 st:Nat
 fin:Bool
def Zn.empty:Zn:=⟨[],0,0,false⟩
structure E2(h:Ab)(z q:Nat)(size:Int)(Z:Zn):Prop where
 An:∃s,h.get z=some (.cells [s,I size,I Z.safe,I Z.st,.bool Z.fin] 277)/\Cc h s q 30 64 Z.l.length Z.l.flatten
 wf:∀x∈Z.l,x.length=64
structure Lt(h:Ab)(V zl n:Nat)(z q:Nat->Nat)(size op cnt:Int)(down:Bool)(Zs:Nat->Zn):Prop where
 pos:0<n
 dev:h.get V=some (.cells [.slice zl 0 n n true,I size,I op,I cnt,.bool down] 152)
 row:h.get zl=some (.vec ((List.range n).map fun i=>.ptr (z i) 0) 220 1)
 An:∀i,i<n->E2 h (z i) (q i) size (Zs i)
 A76:∀i j,i<n->j<n->z i=z j->i=j
 Bbv:∀i j,i<n->j<n->(Zs i).l≠[]->(Zs j).l≠[]->q i=q j->i=j
structure Bfe(h0 h:Ab)(V zl i:Nat)(z:Nat->Nat)(size op:Int)(s:EV):Prop where
 dev:h.get V=some (.cells [s,I size,I op,I 0,.bool false] 152)
 row:Cc h s zl 220 1 i ((List.range i).map fun d=>.ptr (z d) 0)
 An:∀d,d<i->h.get (z d)=some (Vl size)
 A76:∀d e,d<i->e<i->z d=z e->d=e
 new:h0.next<=V/\(0<i->h0.next<=zl)/\∀d,d<i->h0.next<=z d
 ext:Ext h0 h
 hb:HB h
theorem A3z {size:Int}(hn:n<=512)(s0:1<=size)(s1:size<=64)(h0:Ab):∀(m i:Nat) (zl:Nat) (z:Nat->Nat) (F:EV) (h:Ab),n-i<m->i<=n->Bfe h0 h V zl i z size op F ->
 Ok (Abu K m (I size) (.ptr V 0) (I n) (I i) h) fun v h'=>v=.tuple [.ptr V 0,I 0]/\∃zl z F,Bfe h0 h' V zl n z size op F:=by
 intro m;induction m with
 | zero=>intro i _ _ _ _ hm;omega
 | succ m ih=>
  intro i zl z F h hm hi P;simp only[Abu,I,Ac,Aa];by_cases G:(i:Int)<n
  ·simp only[G,aB,Aa,Ayh]
   have hq:=A6o (K:=K) s0 s1 h;simp only[I]at hq;simp only[hq,Aa,Ac,aC,aA,Azc];have e1:Ext h (h.new (Vl size)):=Au.new _ _;have y:HB (h.new (Vl size)):=P.hb.new _;have gz:(h.new (Vl size)).get h.next=some (Vl size):=Ad _ _
   have n1:(h.new (Vl size)).next=h.next+1:=rfl
   generalize h.new (Vl size)=A at e1 y gz n1⊢;have O:A.get V=some (.cells [F,I size,I op,I 0,.bool false] 152):=e1.at P.hb P.dev;have C:Cc A F zl 220 1 i ((List.range i).map fun d=>.ptr (z d) 0):=P.row.frame fun hl=>e1.get _ (P.hb _ _ (P.row.block hl)) id
   have lp:=P.hb _ _ P.dev;rw[Cz O rfl];simp only[Aa];refine L0 (z:=[.Bu]) C y rfl rfl rfl (by omega) (by omega) ?_;intro h2 E n2 c2;have n0:=P.ext.next
   have U:∀x o,A.get x=some o->(∀l e sz,o≠.vec l e sz)->¬(0<i/\x=zl):=by
    rintro x o hx J ⟨hl,rfl⟩;rw[C.block hl]at hx;cases hx;exact J _ _ _ rfl
   have W:=c2.at y O (U _ _ O (by intros;simp));refine Ok.st1 W rfl rfl (by show 0<5;decide) ?_;simp only[Ayr,I,Ac,List.set];rw[Cg];have x2:Ext h0 h2:=by
    refine(P.ext.trans e1).then c2 fun j hj G=>?_
    have:=(P.new.2.1 hj.1);omega
   have ad:=c2.hb y;have X:V<h2.next:=by have:=c2.next;omega
   have x3:=x2.Ao (.inr P.new.1) X (.cells [EV.slice (A.next+1) 0 (i+1) (i+1) true,I size,I op,I 0,.bool false] 152);have ae:=ad.put X (.cells [EV.slice (A.next+1) 0 (i+1) (i+1) true,I size,I op,I 0,.bool false] 152);have Cv:∀x o,A.get x=some o->(∀l e sz,o≠.vec l e sz)->x≠V->(h2.put V (.cells [EV.slice (A.next+1) 0 (i+1) (i+1) true,I size,I op,I 0,.bool false] 152)).get x=some o:=by
    intro x o Y J af;rw[Af _ (cT af)];exact c2.at y Y (U _ _ Y J)
   have P':Bfe h0 (h2.put V (.cells [EV.slice (A.next+1) 0 (i+1) (i+1) true,I size,I op,I 0,.bool false] 152)) V (A.next+1) (i+1) (fun d=>if d=i then h.next else z d) size op (.slice (A.next+1) 0 (i+1) (i+1) true):=by
    refine⟨Ae _ _ _,?_,?_,?_,⟨P.new.1,fun _=>by omega,?_⟩,x3,ae⟩
    ·have:(List.range (i+1)).map (fun d=>EV.ptr (if d=i then h.next else z d) 0)=((List.range i).map fun d=>EV.ptr (z d) 0)++EV.cells (.ptr h.next 0):=by
      rw[dJ,bm];congr 1
      ·refine cZ fun d hd=>?_
       rw[aM (by have:=eU.1 hd;omega)]
      ·simp[EV.cells]
     rw[this];refine E.frame fun _=>Af _ ?_
     have:=E.block (by omega);exact Ba W this (by simp)
    ·intro d hd
     by_cases f:d=i
     ·subst f
      simp only[bI];exact Cv _ _ gz (by intros;simp[Vl]) (Ba gz O (by simp[Vl]))
     ·simp only[f,aY]
      have:=e1.at P.hb (P.An d (by omega));exact Cv _ _ this (by intros;simp[Vl]) (Ba this O (by simp[Vl]))
    ·intro d e hd he B
     have lc:=fun d (hd:d<i)=>P.hb _ _ (P.An d hd)
     by_cases f:d=i<;>by_cases L:e=i
     ·omega
     ·simp only[f,L,bI,aY]at B;have:=lc e (by omega);omega
     ·simp only[f,L,bI,aY]at B;have:=lc d (by omega);omega
     ·simp only[f,L,aY]at B;exact P.A76 d e (by omega) (by omega) B
    ·intro d hd
     by_cases f:d=i
     ·subst f;simp only[bI];omega
     ·simp only[f,aY];exact P.new.2.2 d (by omega)
   exact ih (i+1) _ _ _ _ (by omega) (by omega) P'
  ·have:i=n:=by omega
   subst this;simp only[G,aA,Aa,Azg];exact .ret ⟨rfl,zl,z,F,P⟩
def Apy(zones size op:Int):Bool:=wi zones 1 512&&wi op 1 64&&wi size 1 64
theorem A57 {size:Int}(A:Apy zones size op=true)(hK:1000<K)(hb:HB h):Ok (Ava K (I zones) (I size) (I op) h) fun v h'=>∃V zl z,v=.tuple [.ptr V 0,I 0]/\Ext h h'/\HB h'/\Lt h' V zl zones.toNat z (fun _=>0) size op 0 false (fun _=>Zn.empty)/\h.next<=V/\h.next<=zl/\∀d,d<zones.toNat->h.next<=z d:=by
 simp only[Apy,bL]at A;obtain⟨⟨B,C⟩,E⟩:=A;obtain⟨a0,L⟩:=N4.1 B;obtain⟨F,c1⟩:=N4.1 E;have w:=fun n a=>A0y (K:=K) n a h
 simp only[I]at w;simp only[Ava,I,w,B,C,Aa,Ac,Azf,Ayf];rw[Aw (l:=[.Al,I size,I op,I 0,.bool false]) rfl];simp only[Aa];have P:Bfe h (h.new (.cells [.Al,I size,I op,I 0,.bool false] 152)) h.next 0 0 (fun _=>0) size op .Al:=
  ⟨Ad _ _,.nil _ _ _ _,fun d hd=>absurd hd (cn _),fun d e hd=>absurd hd (cn _),⟨aD _,fun x=>absurd x (bS _),fun d hd=>absurd hd (cn _)⟩,Au.new _ _,hb.new _⟩
 have:=A3z (K:=K) (n:=zones.toNat) (by omega) F c1 h K 0 0 (fun _=>0) .Al _ (by omega) (by omega) P;rw[fM (by omega)]at this;refine this.mono ?_;rintro v h' ⟨rfl,zl,z,O,P⟩;have f:0<zones.toNat:=by omega
 have y:=P.row.slice f;subst y;exact⟨h.next,zl,z,rfl,P.ext,P.hb,⟨f,P.dev,P.row.block f,fun i G=>⟨⟨_,P.An i G,.nil _ _ _ _⟩,fun x J=>by cases J⟩,P.A76,fun i j _ _ a=>absurd rfl a⟩,aD _,P.new.2.1 f,P.new.2.2⟩
structure Aiz(h:Ab)(D V M zl n:Nat)(z q:Nat->Nat)(size op cnt:Int)(down:Bool)(F7 happened:EV)(marks:List (EV × EV))(Zs:Nat->Zn):Prop where
 Dd:h.get D=some (.cells [.ptr V 0,F7,happened,.map M] 149)
 marks:h.get M=some (.map marks)
 dev:Lt h V zl n z q size op cnt down Zs
theorem Lt.ext{z q:Nat->Nat}{size:Int}{Zs:Nat->Zn}(d:Lt h V zl n z q size op cnt down Zs)(g:∀i o,h.get i=some o->h'.get i=some o):Lt h' V zl n z q size op cnt down Zs:=by
 refine⟨d.pos,g _ _ d.dev,g _ _ d.row,fun i f=>?_,d.A76,d.Bbv⟩;obtain⟨s,a,b⟩:=(d.An i f).An;exact⟨⟨s,g _ _ a,b.frame fun j=>by rw[g _ _ (b.block j),b.block j]⟩,(d.An i f).wf⟩
theorem E0.ext{p:Nat}{q c:Nat->Nat}{g:Gm}(d:E0 h p ql n q c g ps)(e:∀i o,h.get i=some o->h'.get i=some o):E0 h' p ql n q c g ps:=
 ⟨d.pos,e _ _ d.Gd,e _ _ d.row,fun i f=>e _ _ (d.que i f),fun i f=>e _ _ (d.chan i f),d.inj⟩
theorem Aiz.ext{M:Nat}{z q:Nat->Nat}{size:Int}{Zs:Nat->Zn}(d:Aiz h D V M zl n z q size op cnt down F7 happened marks Zs)(e:∀i o,h.get i=some o->h'.get i=some o):
 Aiz h' D V M zl n z q size op cnt down F7 happened marks Zs:=⟨e _ _ d.Dd,e _ _ d.marks,d.dev.ext e⟩
theorem A8f {size:Int}(B:Apy zones size op=true)(hK:1000<K)(hb:HB h):Ok (Ap0 K (I zones) (I size) (I op) h) fun v h'=>∃D V M zl z,v=.tuple [.ptr D 0,I 0]/\Ext h h'/\HB h'/\Aiz h' D V M zl zones.toNat z (fun _=>0) size op 0 false .Al .Al [] (fun _=>Zn.empty)/\(h.next<=D/\h.next<=M)/\h.next<=V/\h.next<=zl/\∀d,d<zones.toNat->h.next<=z d:=by
 simp only[Ap0,dr];refine(A57 (K:=K) B hK hb).Am ?_;rintro _ f ⟨V,zl,z,rfl,y,j,d1,nw⟩;simp only[Aa,Ac,I,aC,aA,Ayp];rw[show Aw7 f=some (.map f.next,f.new (.map []))from rfl,Ap,Aw (l:=[.ptr V 0,.Al,.Al,.map f.next]) rfl];simp only[Aa];have A:Ext f ((f.new (.map [])).new (.cells [.ptr V 0,.Al,.Al,.map f.next] 149)):=(Au.new _ _).C8 _;refine .ret ⟨(f.new (.map [])).next,V,f.next,zl,z,rfl,y.trans A,(j.new _).new _,⟨Ad _ _,?_,d1.ext fun i o g=>A.at j g⟩,⟨by have:=y.next;show h.next<=f.next+1;omega,y.next⟩,nw⟩;rw[Ay _ (aR _)];exact Ad _ _
section
def Awx(ps:Nat->List Int)(n:Nat)(d:Int):Nat:=if 0<=d/\d<n then(ps d.toNat).length else 0
theorem Avf{q c:Nat}{buf:List EV}(hq:h.get q=some (.cells [.chan c] 266))(hc:h.get c=some (.chan cap buf)):E3 K (.ptr q 0) h=some (I buf.length,h):=by
 simp only[E3,Aa,Cz hq rfl];have:A6m (.chan c) h=some (I buf.length,h):=by
  show(match h.get c with|some (.chan _ buf)=>some (EV.int .i64 (.ofNat (len buf)),h)|_=>none)=_;rw[hc];simp only;rw[X8];rfl
 rw[this];rfl
section
variable{p:Nat}{q c:Nat->Nat}{g:Gm}(P:E0 h p ql n q c g ps)
include P
theorem E0.rowAt:Cc h (.slice ql 0 n n true) ql 199 1 n ((List.range n).map fun d=>.ptr (q d) 0):=.inr ⟨P.pos,rfl,P.row,by simp⟩
theorem E0.list(k:EV->R):Fy (.ptr p 6) h k=k (.slice ql 0 n n true):=by rw[Cz P.Gd rfl];rfl
theorem E0.Bc0(k:EV->R):Q2 6 (.ptr p 0) h k=k (gV g):=by rw[Cy P.Gd rfl];rfl
theorem E0.Bbf(hd:d<n)(k:EV->R):Fy (.ptr ql (d*1)) h k=k (.ptr (q d) 0):=by
 rw[Cz P.row rfl,bk,bA,cQ hd];rfl
theorem E0.len(hd:d<n):E3 K (.ptr (q d) 0) h=some (I (ps d).length,h):=by
 rw[Avf (P.que d hd) (P.chan d hd),bZ]
theorem A29(d:Int):Vj K (.ptr p 0) (I d) h=some (I (Awx ps n d:Nat),h):=by
 unfold Awx;simp only[Vj,I,Ac,Aa];by_cases f:d<0
 ·simp only[f,aB,Aa,Ac,Wa]
  rw[aM (by omega)];rfl
 ·simp only[f,aA,Aa,Ac,P.list,Wa]
  by_cases h2:(n:Int)<=d
  ·simp only[h2,aB,Aa]
   rw[aM (by omega)];rfl
  ·simp only[h2,aA,Aa,Ag2,P.list]
   have hd:d.toNat<n:=by omega
   have e:d=(d.toNat:Int):=by omega
   rw[e,P.rowAt.ix hd];simp only[Aa,P.Bbf hd];rw[P.len hd,Ap,aQ (by omega)];rfl
end
def Bbe(ps:Nat->List Int)(Tj:Int)(b:Int)(d:Nat):Int:=if ¬(d:Int)=Tj/\(b<0\/(ps b.toNat).length<(ps d).length)then d else b
def Fe(ps:Nat->List Int)(Tj:Int)(n:Nat):Int:=(List.range n).foldl (Bbe ps Tj) (-1)
theorem Aty(ps:Nat->List Int)(Tj:Int)(n:Nat):Fe ps Tj (n+1)=Bbe ps Tj (Fe ps Tj n) n:=by unfold Fe;rw[dJ,List.foldl_append];rfl
theorem A9g(ps:Nat->List Int)(Tj:Int):∀n,-1<=Fe ps Tj n/\Fe ps Tj n<(n:Int)/\(Fe ps Tj n = -1\/0<=Fe ps Tj n)
 | 0=>by unfold Fe;simp
 | n+1=>by
  obtain⟨a,b,c⟩:=A9g ps Tj n;rw[Aty];unfold Bbe;split<;>omega
def Bcl(n:Nat)(ps:Nat->List Int):Prop:=n<=64/\∀d,d<n->(ps d).length<=4096
theorem A7q {p:Nat}{q c:Nat->Nat}{g:Gm}(Tj:Int)(hn:n<=64):∀(m i:Nat) (h:Ab),n-i<m->i<=n->HB h->E0 h p ql n q c g ps ->
 Ok (G1 K m (.ptr p 0) (I Tj) (I (Fe ps Tj i)) (.slice ql 0 n n true) (I n) (I i) h) fun v h'=>v=I (Fe ps Tj n)/\Ext h h':=by
 intro m;induction m with
 | zero=>intro i h hm;omega
 | succ m U=>
  intro i h hm X hb P;simp only[G1,I,Ac,Aa];by_cases B:(i:Int)<n
  ·have y:i<n:=by omega
   simp only[B,aB,Aa,Aa9];rw[P.rowAt.ix y,P.Bbf y];obtain⟨b0,b1,b2⟩:=A9g ps Tj i;have next:∀(b:Int) (C:Ab),b=Fe ps Tj (i+1)->Ext h C->Ok (Nu K (G1 K m) (.ptr p 0) (.int .i64 Tj) (.int .i64 b) (.slice ql 0 n n true) (.int .i64 (n:Int)) (.int .i64 (i:Int)) C) fun v h'=>v=I (Fe ps Tj n)/\Ext h h':=by
    rintro _ C rfl F;simp only[Nu,Ac];rw[Cg];exact(U (i+1) C (by omega) (by omega) (F.hb hb) (P.ext fun i o g=>F.at hb g)).mono fun v h' a=>⟨a.1,F.trans a.2⟩
   rw[Aty]at next
   unfold Bbe at next
   simp only[Aa,Ac];by_cases f:(i:Int)=Tj
   ·simp only[f,aC,aA,Aa,Ac,Ny,G4,G0]
    rw[aM (fun x=>x.1 f)]at next
    rw[f]at next
    exact next _ h rfl (Au.refl _)
   ·simp only[f,aF,aB,Aa,Ac,Ny]
    by_cases j:Fe ps Tj i<0
    ·simp only[j,aB,Aa,Ac,G4,G0]
     rw[aQ ⟨f,.inl j⟩]at next
     exact next _ h rfl (Au.refl _)
    ·simp only[j,aA,Aa,Ac]
     refine Ok.bE (P:=fun v h2=>v=I (ps i).length/\Ext h.lift h2) ⟨_,_,(P.ext (h':=h.lift) fun i o g=>by rw[Br];exact g).len y,rfl,Au.refl _⟩ (fun _ _ p=>p.2) ?_;rintro _ h2 G ⟨rfl,_⟩ _ J;have E:E0 G p ql n q c g ps:=P.ext fun i o g=>J.at hb g
     have W:p<h.next:=hb _ _ P.Gd
     have hq:ql<h.next:=hb _ _ P.row
     have A:(Fe ps Tj i).toNat<n:=by omega
     simp only[Aa,Ar,Ce W,E.list];rw[show Fe ps Tj i=((Fe ps Tj i).toNat:Int) by omega,E.rowAt.ix A];simp only[Aa,Ar,Ce hq,E.Bbf A];refine Ok.bE (P:=fun v h2=>v=I (ps (Fe ps Tj i).toNat).length/\Ext G.lift h2) ⟨_,_,(E.ext (h':=G.lift) fun i o g=>by rw[Br];exact g).len A,rfl,Au.refl _⟩ (fun _ _ p=>p.2) ?_;rintro _ h4 L ⟨rfl,_⟩ _ O;rw[show((Fe ps Tj i).toNat:Int)=Fe ps Tj i by omega];simp only[Ac,I];by_cases hc:((ps (Fe ps Tj i).toNat).length:Int)<(ps i).length
     ·simp only[hc,aB,G4,G0,Aa,Ac]
      rw[aQ ⟨f,.inr (by omega)⟩]at next
      exact next _ L rfl (J.trans O)
     ·simp only[hc,aA,G4,G0,Aa,Ac]
      rw[aM (fun x=>by rcases x.2 with a|a<;>omega)]at next
      exact next _ L rfl (J.trans O)
  ·have:i=n:=by omega
   subst this;simp only[B,aA,Aa,Ach];exact .ret ⟨rfl,Au.refl _⟩
theorem Auj{p:Nat}{q c:Nat->Nat}{g:Gm}(P:E0 h p ql n q c g ps)(hb:HB h)(hn:n<=64)(hK:1000<K)(Tj:Int):
 Ok (Jw K (.ptr p 0) (I Tj) h) fun v h'=>v=I (Fe ps Tj n)/\Ext h h':=by
 simp only[Jw,Aa,P.list];exact A7q Tj hn K 0 h (by omega) (by omega) hb P
def Ao4(ps:Nat->List Int)(n:Nat):Nat:=((List.range n).map fun d=>(ps d).length).sum
theorem Akv(ps:Nat->List Int)(n:Nat):Ao4 ps (n+1)=Ao4 ps n+(ps n).length:=by unfold Ao4;rw[dJ,bm,List.sum_append];simp
def Aad(ps:Nat->List Int)(n:Nat):Int:=min ((Ao4 ps n:Int)/2) (Ao4 ps n-Awx ps n (Fe ps (-1) n))
theorem Bcf {p:Nat}{q c:Nat->Nat}{g:Gm}(hs:Bcl n ps)(hb:HB h)(P:E0 h p ql n q c g ps)(hK:1000<K):∀(m i:Nat),n-i<m->i<=n->Ao4 ps i<=4096*i ->
 Ok (Ly K m (.ptr p 0) (I (Ao4 ps i)) (.slice ql 0 n n true) (I n) (I i) h) fun v h'=>v=I (Aad ps n)/\Ext h h':=by
 obtain⟨hn,y⟩:=hs;intro m;induction m with
 | zero=>intro i hm;omega
 | succ m C=>
  intro i hm E A;simp only[Ly,I,Ac,Aa];by_cases j:(i:Int)<n
  ·have f:i<n:=by omega
   have:=y i f;simp only[j,aB,Aa,Afy];rw[P.rowAt.ix f,P.Bbf f,P.len f,Ap];simp only[I,Ac,Agz];rw[Cg,Cg];have e:((Ao4 ps i:Int)+(ps i).length)=(Ao4 ps (i+1):Nat):=by rw[Akv];omega
   rw[e];exact C (i+1) (by omega) (by omega) (by rw[Akv];omega)
  ·have:i=n:=by omega
   subst this;simp only[j,aA,Aa,Ago];rw[Boh (by omega) (by omega) (by omega)];refine(Auj P hb hn hK (-1)).Am ?_;rintro _ F ⟨rfl,B⟩;rw[A29 (P.ext fun i o g=>B.at hb g),Ap];simp only[I,Ac];have hle:Awx ps i (Fe ps (-1) i)<=4096:=by
    unfold Awx;split
    ·exact y _ (by omega)
    ·omega
   rw[Cg,min2,Ap];exact .ret ⟨rfl,B⟩
theorem Bar{p:Nat}{q c:Nat->Nat}{g:Gm}(P:E0 h p ql n q c g ps)(hb:HB h)(hs:Bcl n ps)(hK:1000<K):
 Ok (Ig K (.ptr p 0) h) fun v h'=>v=I (Aad ps n)/\Ext h h':=by
 simp only[Ig,Aa,P.list];exact Bcf hs hb P hK K 0 (by obtain⟨a,_⟩:=hs;omega) (by omega) (by unfold Ao4;simp)
end
section
noncomputable def Abz(D:Nat)(g:Gm)(p bl n:Nat)(a b u:Int):List EV:=[.ptr D 0]++gL g++Be++[.ptr p 0,.slice bl 0 n n false,I a,I b,I u]
theorem Pv:Be.length=256:=by kernel_rfl
section
variable (D:Nat)(g:Gm)(p bl n:Nat)(a b u:Int)
theorem A0g:(Abz D g p bl n a b u).length=268:=by unfold Abz;simp[Pv,gL]
theorem Bdr:(Abz D g p bl n a b u)[0]? = some (.ptr D 0):=rfl
theorem Bio:Mj (Abz D g p bl n a b u) 1 6=some (gL g):=by kernel_rfl
theorem Bcg:Mj (Abz D g p bl n a b u) 7 256=some Be:=by kernel_rfl
theorem Bh7:(Abz D g p bl n a b u)[263]? = some (.ptr p 0):=by kernel_rfl
theorem Bkw:(Abz D g p bl n a b u)[264]? = some (.slice bl 0 n n false):=by kernel_rfl
theorem Btd:(Abz D g p bl n a b u)[265]? = some (I a):=by kernel_rfl
theorem Brz:(Abz D g p bl n a b u)[266]? = some (I b):=by kernel_rfl
theorem Bsa:(Abz D g p bl n a b u)[267]? = some (I u):=by kernel_rfl
end
theorem Qo{l:List EV}(f:h.get i=some (.cells l t))(hs:TT.size t=some n)(j:TT.agg t=some true)(y:l.length=n):Ii TT [.c (.ptr i 0) t] h=some (.agg l,h):=by
 have A:Iw h i 0 n=some l:=by
  unfold Iw;rw[f];simp only;rw[<-Ai7];exact Ak y
 unfold Ii;simp only[Azi,hs,A,j]
structure Ab4(h:Ab)(m D p bl n:Nat)(g:Gm)(a b u:Int)(bad:Nat->Int):Prop where
 Hf:h.get m=some (.cells (Abz D g p bl n a b u) 132)
 Azx:h.get bl=some (.cells ((List.range n).map fun z=>I (bad z)) 3)
section
variable{m p bl:Nat}{g:Gm}{u:Int}{bad:Nat->Int}(M:Ab4 h m D p bl n g a b u bad)
include M
theorem Ab4.Dd(k:EV->R):Fy (.ptr m 0) h k=k (.ptr D 0):=by rw[Cz M.Hf rfl,Bdr];rfl
theorem Ab4.Bc0(k:EV->R):Q2 6 (.ptr m 1) h k=k (gV g):=by rw[Cy M.Hf rfl,Bio];rfl
theorem Ab4.table(k:EV->R):Q2 256 (.ptr m 7) h k=k Uh:=by rw[Cy M.Hf rfl,Bcg];rfl
theorem Ab4.Gd(k:EV->R):Fy (.ptr m 263) h k=k (.ptr p 0):=by rw[Cz M.Hf rfl,Bh7];rfl
theorem Ab4.Bt9(k:EV->R):Fy (.ptr m 264) h k=k (.slice bl 0 n n false):=by rw[Cz M.Hf rfl,Bkw];rfl
theorem Ab4.oa(k:EV->R):Fy (.ptr m 265) h k=k (I a):=by rw[Cz M.Hf rfl,Btd];rfl
theorem Ab4.ob(k:EV->R):Fy (.ptr m 266) h k=k (I b):=by rw[Cz M.Hf rfl,Brz];rfl
theorem Ab4.ou(k:EV->R):Fy (.ptr m 267) h k=k (I u):=by rw[Cz M.Hf rfl,Bsa];rfl
theorem Ab4.ext(e:∀i o,h.get i=some o->h'.get i=some o):Ab4 h' m D p bl n g a b u bad:=⟨e _ _ M.Hf,e _ _ M.Azx⟩
omit M in
theorem Bpt:TT.size 23=some 6/\TT.agg 23=some true:=⟨by kernel_rfl,by kernel_rfl⟩
omit M in
theorem Bro:TT.size 119=some 256/\TT.agg 119=some true:=⟨by kernel_rfl,by kernel_rfl⟩
end
section
variable{M:Nat}{z q:Nat->Nat}{size:Int}{Zs:Nat->Zn}
theorem Ane(d:Aiz h D V M zl n z q size op cnt down F7 happened marks Zs):Db K (.ptr D 0) h=some (.ptr V 0,h):=by simp only[Db,Aa,Cz d.Dd rfl]
theorem Av6(d:Lt h V zl n z q size op cnt down Zs):No K (.ptr V 0) h=some (I n,h):=by simp only[No,Aa,Cz d.dev rfl,I]
theorem Azb(d:Lt h V zl n z q size op cnt down Zs):O4 K (.ptr V 0) h=some (I size,h):=by simp only[O4,Aa,Cz d.dev rfl]
end
theorem Btg(v:EV):∀n,rep [v] n=List.replicate n v
 | 0=>rfl
 | n+1=>by show[v]++rep [v] n=_;rw[Btg v n];rfl
theorem Ayd(v:EV)(n:Nat):(List.range n).map (fun _=>v)=List.replicate n v:=by
 rw[List.map_const',eP]
theorem A37 {g:Gm}(hK:1000<K)(hb:HB h){M:Nat}{z q:Nat->Nat}{size:Int}{Zs:Nat->Zn}(dr:Aiz h D V M zl n z q size op cnt down F7 happened marks Zs):
 Ok (Ags K (.ptr D 0) (gV g) Uh h) fun v h'=>Ext h h'/\HB h'/\if rtB g=true/\g.D*g.Z=n/\g.S=size then
  ∃m p bl ql q c,v=.tuple [.ptr m 0,I 0]/\Ab4 h' m D p bl n g (-1) (-1) 0 (fun _=>0)/\E0 h' p ql g.D.toNat q c g (fun _=>[])/\(h.next<=m/\h.next<=bl)/\h.next<=p/\h.next<=ql/\∀d,d<g.D.toNat->h.next<=q d/\h.next<=c d else v=.tuple [.Bu,I 20]:=by
 have ai:P9 119 Uh (h.new (.cells (gL g) 23))=fun(k:EV->Ab->R)=>k (.ptr (h.next+1) 0) ((h.new (.cells (gL g) 23)).new (.cells Be 119)):=rfl
 simp only[Ags,gV,Aa,ai];have g4:((h.new (.cells (gL g) 23)).new (.cells Be 119)).get h.next=some (.cells (gL g) 23):=by rw[Ay _ (aR _)];exact Ad _ _
 have g5:((h.new (.cells (gL g) 23)).new (.cells Be 119)).get (h.next+1)=some (.cells Be 119):=Ad _ _;have F:Ext h ((h.new (.cells (gL g) 23)).new (.cells Be 119)):=(Au.new _ _).C8 _;have n1:((h.new (.cells (gL g) 23)).new (.cells Be 119)).next=h.next+2:=rfl
 generalize (h.new (.cells (gL g) 23)).new (.cells Be 119)=h1 at g4 g5 F n1⊢;have E:=F.hb hb;simp only[Cy g4 rfl,Ak (show(gL g).length=6 from rfl),Aa];cases hr:rtB g with
 | false=>
  refine(A84 hr h1).Am ?_;rintro _ h2 ⟨rfl,C⟩;simp only[Aa,I,Ac,show ¬((20:Int)=0) by decide,aF,aB,Aay,Qq];exact .ret ⟨F.trans C,C.hb E,rfl⟩
 | true=>
  have s:=Ul hr;have:=s.d0;have:=s.d1;have:=s.z0;have:=s.z1;obtain⟨m0,m1⟩:=N3 (a:=g.D) (b:=g.Z) (A:=8) (B:=64) (by omega) (by omega) (by omega) (by omega);refine(A5y hr hK E).Am ?_;rintro _ h2 ⟨p,ql,qq,c,rfl,C,j,P,nw⟩;have k2:∀i o,h.get i=some o->h2.get i=some o:=fun i o g=>C.at E (F.at hb g)
  have l4:h.next<h2.next:=by have:=C.next;omega
  have l5:h.next+1<h2.next:=by have:=C.next;omega
  have U:=C.at E g4;have aq:=C.at E g5;simp only[Aa,I,Ac,aC,aA];refine Ok.bE (P:=fun v h3=>v=.ptr V 0/\Ext h2.lift h3) ⟨_,_,Ane ((dr.ext k2).ext fun i o g=>by rw[Br];exact g),rfl,Au.refl _⟩ (fun _ _ p=>p.2) ?_;rintro _ _ h3 ⟨rfl,_⟩ _ x3;have W:=x3.hb j;have k3:∀i o,h.get i=some o->h3.get i=some o:=fun i o g=>x3.at j (k2 i o g)
  refine Ok.bE (P:=fun v h4=>v=I n/\Ext h3.lift h4) ⟨_,_,Av6 ((dr.dev.ext k3).ext fun i o g=>by rw[Br];exact g),rfl,Au.refl _⟩ (fun _ _ p=>p.2) ?_;rintro _ _ h4 ⟨rfl,_⟩ _ x4;have X:=x4.hb W;have k4:∀i o,h.get i=some o->h4.get i=some o:=fun i o g=>x4.at W (k3 i o g)
  have Y:Ext h2 h4:=x3.trans x4;have ax:=Y.at j U;simp only[Aa,Ar,Ce l4,Cy ax rfl,Ak (show(gL g).length=6 from rfl)];refine Ok.bE (P:=fun v O=>v=I (g.D*g.Z)/\Ext h4.lift O) ⟨_,_,Ni s _,rfl,Au.new _ _⟩ (fun _ _ p=>p.2) ?_;rintro _ _ O ⟨rfl,_⟩ _ x5;have aa:=x5.hb X;have k5:∀i o,h.get i=some o->O.get i=some o:=fun i o g=>x5.at X (k4 i o g)
  simp only[I,Ac,Aay];have ab:Ext h2 O:=Y.trans x5;by_cases hn:(n:Int)=g.D*g.Z
  ·simp only[hn,aC,aA,Aa,Ac]
   refine Ok.bE (P:=fun v h6=>v=.ptr V 0/\Ext O.lift h6) ⟨_,_,Ane ((dr.ext k5).ext fun i o g=>by rw[Br];exact g),rfl,Au.refl _⟩ (fun _ _ p=>p.2) ?_;rintro _ _ h6 ⟨rfl,_⟩ _ x6;have a1:=x6.hb aa;have k6:∀i o,h.get i=some o->h6.get i=some o:=fun i o g=>x6.at aa (k5 i o g)
   refine Ok.bE (P:=fun v J=>v=I size/\Ext h6.lift J) ⟨_,_,Azb ((dr.dev.ext k6).ext fun i o g=>by rw[Br];exact g),rfl,Au.refl _⟩ (fun _ _ p=>p.2) ?_;rintro _ _ J ⟨rfl,_⟩ _ x7;have a2:=x7.hb a1;have y:Ext h2 J:=ab.trans (x6.trans x7);have ad:=y.at j U;simp only[Aa,Ar,Ce l4,Cz ad rfl,gL,I,Ac];by_cases hs:size=g.S
   ·subst hs
    simp only[aC,aA,Qq,Asp,Aa];have a5:=y.at j aq;have a6:h.next<J.next:=aN l4 y.next
    have a7:h.next+1<J.next:=aN l5 y.next
    simp only[Aa,Ar,Ce a6,Ce a7,Cy ad rfl,Cy a5 rfl,Ak (show(gL g).length=6 from rfl),Ak Pv];refine Ok.bE (P:=fun v f=>v=I (g.D*g.Z)/\Ext J.lift f) ⟨_,_,Ni s _,rfl,Au.new _ _⟩ (fun _ _ p=>p.2) ?_;rintro _ _ f ⟨rfl,_⟩ _ x8;have b7:=x8.hb a2;have L:Ext h2 f:=y.trans x8;simp only[Aa,Ar,I];rw[<-hn];have a8:Vs [.int .i64 0] 3 (.int .i64 (n:Int)) (.int .i64 (n:Int)) f=some (.slice f.next 0 n n false,f.new (.cells (rep [.int .i64 0] n) 3)):=by
     show Ax (Nat.ble n n) (Ax (Nat.ble n 65536) _ none) none=_;rw[aO (aD n),Aj,aO (by omega),Aj]
    rw[a8,Ap,Aw (l:=Abz D g p f.next n (-1) (-1) 0) (by kernel_rfl)];simp only[Aa,Ar];have ae:Ext f ((f.new (.cells (rep [.int .i64 0] n) 3)).new (.cells (Abz D g p f.next n (-1) (-1) 0) 132)):=(Au.new _ _).C8 _;have G:Ext h ((f.new (.cells (rep [.int .i64 0] n) 3)).new (.cells (Abz D g p f.next n (-1) (-1) 0) 132)):=(F.trans C).trans (L.trans ae);refine .ret ⟨G,G.hb hb,?_⟩;rw[aQ (by first|exact⟨rfl,hn.symm,rfl⟩|simp[hn]|simp)];refine⟨f.next+1,p,f.next,ql,qq,c,rfl,⟨Ad _ _,?_⟩,P.ext fun i o g=>Ext.at (L.trans ae) j g,?_⟩
    ·rw[Ay _ (aR _),Ad,Btg,Ayd]
    ·have t1:=F.next
     have t2:=C.next
     have t3:=L.next
     exact⟨⟨by omega,by omega⟩,by omega,by omega,fun d hd=>by have:=nw.2.2 d hd;omega⟩
   ·have af:¬size=g.S:=hs
    simp only[af,aF,aB,Qq,Aa];have G:Ext h J:=(F.trans C).trans y;refine .ret ⟨G,G.hb hb,?_⟩;rw[aM (fun x=>af x.2.2.symm)]
  ·simp only[hn,aF,aB,Aa,Ac,Qq]
   have G:Ext h O:=(F.trans C).trans ab;refine .ret ⟨G,G.hb hb,?_⟩;rw[aM (fun x=>hn x.2.1.symm)]
end
section
section
variable{m p bl:Nat}{g:Gm}{u:Int}{bad:Nat->Int}(M:Ab4 h m D p bl n g a b u bad)
include M
theorem Yu:Cm K (.ptr m 0) h=some (.ptr p 0,h):=by simp only[Cm,Aa,M.Gd]
theorem Mq:Bj K (.ptr m 0) h=some (.ptr D 0,h):=by simp only[Bj,Aa,M.Dd]
theorem A1j:Ll K (.ptr m 0) h=some (.tuple [I a,I b,I u],h):=by simp only[Ll,Aa,M.oa,M.ob,M.ou]
theorem A06(hb:HB h):Ok (Cd K (.ptr m 0) h) fun v h'=>v=gV g/\Ext h h':=by
 simp only[Cd,Aa];have f:Ab4 (h.new (.cells [.int .i64 0,.int .i64 0,.int .i64 0,.int .i64 0,.int .i64 0,.int .i64 0] 23)) m D p bl n g a b u bad:=M.ext fun i o g=>Ext.at (Au.new h _) hb g
 rw[f.Bc0];refine Ok.st (gL g) (Ad _ _) rfl rfl rfl ?_;rw[Qo (Ae _ _ _) Bpt.1 Bpt.2 rfl];exact .ret ⟨rfl,(Au.new h _:Ext _ _).Ao (.inr (aD _)) (aR _) _⟩
theorem Ann(hb:HB h):Ok (F6 K (.ptr m 0) h) fun v h'=>v=Uh/\Ext h h':=by
 simp only[F6,Aa];have f:Ab4 (h.new (.cells (List.replicate 256 (.int .u32 0)) 119)) m D p bl n g a b u bad:=M.ext fun i o g=>Ext.at (Au.new h _) hb g
 rw[f.table];refine Ok.st Be (Ad _ _) rfl (by rw[show EV.cells Uh=Be from rfl,Bf,Pv]) (by rw[show EV.cells Uh=Be from rfl];exact Bm (by rw[Pv];simp)) ?_;rw[Qo (Ae _ _ _) Bro.1 Bro.2 Pv];exact .ret ⟨rfl,(Au.new h _:Ext _ _).Ao (.inr (aD _)) (aR _) _⟩
end
end
section
section
variable{q c:Nat}(hq:h.get q=some (.cells [.chan c] 266))(hc:h.get c=some (.chan cap (xs.map I)))
include hq hc
theorem A6a(x:Int)(f:xs.length<cap):Gk K (.ptr q 0) (I x) h=some (I 0,h.put c (.chan cap ((xs++[x]).map I))):=by
 have hs:A2j (.chan c) (I x) h=some (.tuple [.int .i64 0,.bool false],h.put c (.chan cap ((xs++[x]).map I))):=by
  unfold A2j;simp only[hc,X8,bZ];rw[aO f,Aj,bm];rfl
 simp only[Gk,Aa,Cz hq rfl,hs,Ac,aB]
theorem Bsc(x:Int)(f:cap<=xs.length):Gk K (.ptr q 0) (I x) h=some (I 17,h):=by
 have hs:A2j (.chan c) (I x) h=some (.tuple [.int .i64 (-1),.bool false],h):=by
  unfold A2j;simp only[hc,X8,bZ];rw[show Nat.ble (Nat.succ xs.length) cap=false from by
   cases hb:Nat.ble (Nat.succ xs.length) cap with
   | false=>rfl
   | true=>have:=bB hb;omega,Bc]
 simp only[Gk,Aa,Cz hq rfl,hs,Ac,show ¬((-1:Int)=0) by decide,aA]
theorem take_cons{r:List Int}(f:xs=x::r):Fx K (.ptr q 0) h=some (.tuple [I x,I 0],h.put c (.chan cap (r.map I))):=by
 subst f;have hs:A23 (.int .i64 0) (.chan c) h=some (.tuple [.int .i64 0,.bool true,I x],h.put c (.chan cap (r.map I))):=by
  unfold A23;simp only[hc,cR]
 simp only[Fx,Aa,Cz hq rfl,hs,Ac,aB]
theorem take_nil(f:xs = []):Fx K (.ptr q 0) h=some (.tuple [I 0,I 15],h):=by
 subst f;have hs:A23 (.int .i64 0) (.chan c) h=some (.tuple [.int .i64 (-1),.bool false,.int .i64 0],h):=by
  unfold A23;simp only[hc,List.map_nil]
 simp only[Fx,Aa,Cz hq rfl,hs,Ac,show ¬((-1:Int)=0) by decide,aA]
end
structure Listed(h0 h:Ab)(v:EV)(c cap:Nat)(xs:List Int)(q':Nat):Prop where
 row:Cc h v q' 3 1 xs.length (xs.map I)
 new:0<xs.length->h0.next<=q'
 chan:h.get c=some (.chan cap (xs.map I))
 chg:Au (fun i=>i=c) h0 h
 hb:HB h
theorem Bi7{q c:Nat}(A:h0.get q=some (.cells [.chan c] 266))(f:∃b,h0.get c=some (.chan cap b))(J:xs.length<=cap)(L:cap<=4096)(hb0:HB h0):∀(m j:Nat) (h:Ab) (s:EV) (q':Nat),xs.length-j<m->j<=xs.length ->
 Cc h s q' 3 1 xs.length (xs.map I)->(0<xs.length->h0.next<=q')->h.get c=some (.chan cap ((xs.take j).map I))->Au (fun i=>i=c) h0 h->HB h ->
 Ok (H8 K m (.ptr q 0) s s (I xs.length) (I j) h) fun v h'=>∃q',Listed h0 h' v c cap xs q':=by
 obtain⟨b0,f⟩:=f;have F:q≠c:=Ba A f (by simp);have lc:=hb0 _ _ f;intro m;induction m with
 | zero=>intro j h s q' hm;omega
 | succ m O=>
  intro j h s q' hm hj row new hc x hb;simp only[H8,I,Ac,Aa];by_cases B:(j:Int)<xs.length
  ·have y:j<xs.length:=by omega
   have hq:h.get q=some (.cells [.chan c] 266):=Au.at x hb0 A F;have C:=row.block (by omega);simp only[B,aB,Aa,Adp];rw[row.ix y,Cz C rfl,bk,bA,aH y,dV,Gr,A6a hq hc xs[j] (by rw[bH];omega),Ap];simp only[Ac6,Ac];rw[Cg];have e:xs.take j++[xs[j]]=xs.take (j+1):=(cy y).symm;rw[e];have E:c<h.next:=aN lc x.next
   have G:q'≠c:=Ba C hc (by simp);exact O (j+1) _ s q' (by omega) (by omega) (row.frame fun _=>Af _ (cT G)) new (Ae _ _ _) (x.Ao (.inl rfl) E _) (hb.put E _)
  ·have:j=xs.length:=by omega
   subst this;simp only[B,aA,Aa,Ud];rw[cL]at hc;exact .ret ⟨q',row,new,hc,x,hb⟩
theorem Bg1{q c:Nat}(B:h0.get q=some (.cells [.chan c] 266))(f:∃b,h0.get c=some (.chan cap b))(C:xs.length<=cap)(L:cap<=4096)(hb0:HB h0)(hK:5000<K):∀(m j:Nat) (h:Ab) (s:EV) (q':Nat),xs.length-j<m->j<=xs.length ->
 Cc h s q' 3 1 j ((xs.take j).map I)->(0<j->h0.next<=q')->h.get c=some (.chan cap ((xs.drop j).map I))->Au (fun i=>i=c) h0 h->HB h ->
 Ok (H7 K m (.ptr q 0) s (I xs.length) (I j) h) fun v h'=>∃q',Listed h0 h' v c cap xs q':=by
 have E:=f;obtain⟨b0,f⟩:=f;have O:q≠c:=Ba B f (by simp);have lc:=hb0 _ _ f;intro m;induction m with
 | zero=>intro j h s q' hm;omega
 | succ m Y=>
  intro j h s q' hm hj row new hc x hb;simp only[H7,I,Ac,Aa];by_cases F:(j:Int)<xs.length
  ·have G:j<xs.length:=by omega
   have hq:h.get q=some (.cells [.chan c] 266):=Au.at x hb0 B O;have e:xs.drop j=xs[j]::xs.drop (j+1):=dI G;have y:c<h.next:=aN lc x.next
   simp only[F,aB,Aa,Ael];rw[take_cons hq hc e];simp only[Aa,I,Ac,aB];have J:Cc (h.put c (.chan cap ((xs.drop (j+1)).map I))) s q' 3 1 j ((xs.take j).map I):=row.frame fun U=>Af _ (cT (Ba (row.block U) hc (by simp)))
   refine L0 (z:=[.int .i64 0]) J (hb.put y _) rfl rfl rfl (by omega) (by omega) ?_;intro h2 A n2 c2;have W:Au (fun i=>i=c) h0 (h.put c (.chan cap ((xs.drop (j+1)).map I))):=x.Ao (.inl rfl) y _;have x3:Au (fun i=>i=c) h0 h2:=W.then c2 fun i hi U=>by have:=new hi.1;omega
   simp only[Ad4,Ac];rw[Cg];have e2:(xs.take j).map I++EV.cells (.int .i64 xs[j])=(xs.take (j+1)).map I:=by
    rw[cy G,bm];rfl
   rw[e2]at A;refine Y (j+1) _ _ _ (by omega) (by omega) A (fun _=>by have:=W.next;omega) ?_ x3 (c2.hb (hb.put y _));rw[c2.get _ (by rw[Ab.Qg];exact y) (fun X=>by
    have:=row.block X.1;exact Ba this hc (by simp) X.2.symm)]
   exact Ae _ _ _
  ·have:j=xs.length:=by omega
   subst this;rw[cL]at row;simp only[F,aA,Aa,Up];rw[row.Hc];rw[List.drop_length]at hc;exact Bi7 B E C L hb0 K 0 h s q' (by omega) (by omega) row new hc x hb
theorem A38{q c:Nat}(j:h0.get q=some (.cells [.chan c] 266))(f:h0.get c=some (.chan cap (xs.map I)))(y:xs.length<=cap)(A:cap<=4096)(hb0:HB h0)(hK:5000<K):
 Ok (Ty K (.ptr q 0) h0) fun v h'=>∃q',Listed h0 h' v c cap xs q':=by
 simp only[Ty,dr];rw[Avf j f,Ap,bZ];exact Bg1 j ⟨_,f⟩ y A hb0 hK K 0 h0 .Al 0 (by omega) (by omega) (.nil _ _ _ _) (fun x=>absurd x (bS _)) f (Au.refl _) hb0
theorem Listed.same{c:Nat}{q':Nat}(l:Listed h0 h v c cap xs q')(hc:h0.get c=some (.chan cap (xs.map I))):∀i,i<h0.next->h.get i=h0.get i:=by
 intro i f;by_cases e:i=c
 ·subst e;rw[l.chan,hc]
 ·exact l.chg.get i f e
end
section
theorem Buv:(Ek TT 18 0).2.1 = [9,10]:=by kernel_rfl
theorem Bt1:(Ek TT 146 0).2.1 = [19,20]:=by kernel_rfl
section
variable (H:Bw disp)
include H
theorem Bjs(he:1<=e){z i:Int}(E:h.get l0=some (Av TT 18 14 0 tm .ready none d0))(t3:tmp tm 3=.ptr b3 0)(t4:tmp tm 4=.ptr b4 0)(U:h.get b3=some (.cells [I z] 3))(J:h.get b4=some (.cells [.bool false] 4))(hb:HB h):
 ∃h',Ag TT disp K (e+1) true l0 [I i,I x] h=some (.bool (decide (¬x=z)),h')/\h'.get l0=some (Av TT 18 14 0 tm (if x=z then .done else .ready) (if x=z then some .ret else none) d0)/\h'.get b4=some (.cells [.bool (decide (x=z))] 4)/\Au (fun j=>j=l0\/j=b4) h h'/\HB h':=by
 have y:=E;unfold Av at y;rw[Buv]at y;rw[Aq6 H he tm h (I i) (I x) y,t3,t4];have F:=hb _ _ E;have X:=hb _ _ J;have L:l0≠b3:=Ba E U (by simp[Av]);have f:l0≠b4:=Ba E J (by simp[Av]);simp only[Alb,W6 E,Abq,dr];have G:(h.put l0 (Av TT 18 14 0 tm .busy none d0)).get b3=some (.cells [I z] 3):=by rw[Af _ L];exact U
 have A:(h.put l0 (Av TT 18 14 0 tm .busy none d0)).get b4=some (.cells [.bool false] 4):=by rw[Af _ f];exact J
 have B:(h.put l0 (Av TT 18 14 0 tm .busy none d0)).get l0=some (Av TT 18 14 0 tm .busy none d0):=Ae _ _ _;have O:Au (fun j=>j=l0\/j=b4) h (h.put l0 (Av TT 18 14 0 tm .busy none d0)):=(Au.refl h).Ao (.inl (.inl rfl)) F _;have C:HB (h.put l0 (Av TT 18 14 0 tm .busy none d0)):=hb.put F _;have Y:(h.put l0 (Av TT 18 14 0 tm .busy none d0)).next=h.next:=rfl
 generalize h.put l0 (Av TT 18 14 0 tm .busy none d0)=h1 at G A B O C Y⊢;simp only[Cz G rfl,Aa,I,Ac];by_cases W:x=z
 ·simp only[W,aB,Aa,aC,aA,bI]
  rw[Aql (o:=0) (n:=1) (v:=.bool true) (l':=[.bool true]) A rfl rfl rfl,Np (by rw[Af _ (cT f)];exact B)];exact⟨_,rfl,Ae _ _ _,by rw[Af _ f];exact Ae _ _ _,(O.Ao (.inl (.inr rfl)) (by omega) _).Ao (.inl (.inl rfl)) (by rw[Ab.Qg];omega) _,(C.put (by omega) _).put (by rw[Ab.Qg];omega) _⟩
 ·simp only[W,aA,Aa,aF,aB,aY]
  rw[Np B];exact⟨_,rfl,Ae _ _ _,by rw[Af _ f];exact A,O.Ao (.inl (.inl rfl)) (by omega) _,C.put (by omega) _⟩
theorem Bjr(he:2<=e){l1 d1 b5:Nat}{z i dd:Int}(X:h.get l0=some (Av TT 18 14 0 tm .ready none d0))(t3:tmp tm 3=.ptr b3 0)(t4:tmp tm 4=.ptr b4 0)(g3:h.get b3=some (.cells [I z] 3))(g4:h.get b4=some (.cells [.bool false] 4))
 (f:h.get l1=some (Av TT 146 27 0 tm1 .ready none d1)) (u2:tmp tm1 2=.ptr b2 0) (u3:tmp tm1 3=.ptr b5 0) (g2:h.get b2=some (.cells [.U1 l0] 213)) (g5:h.get b5=some (.cells [I dd] 3)) (hb:HB h) :
 ∃h',Ag TT disp K (e+1) true l1 [I i,I x] h=some (.bool (decide (¬x=z)),h')/\h'.get l0=some (Av TT 18 14 0 tm (if x=z then .done else .ready) (if x=z then some .ret else none) d0)/\h'.get l1=some (Av TT 146 27 0 tm1 (if x=z then .done else .ready) (if x=z then some .ret else none) d1) /\
  h'.get b4=some (.cells [.bool (decide (x=z))] 4)/\Au (fun j=>j=l0\/j=b4\/j=l1) h h'/\HB h':=by
 obtain⟨e,rfl⟩:∃k,e=k+1:=⟨e-1,by omega⟩;have C:=f;unfold Av at C;rw[Bt1]at C;rw[Als H (by omega) tm1 h (I i) (I x) C,u2,u3];have J:=hb _ _ f;have E:l1≠l0:=Ba f X (by simp[Av]);have A:∀b o,h.get b=some o->(∀st p,o≠Av TT 146 27 0 tm1 st p d1)->(h.put l1 (Av TT 146 27 0 tm1 .busy none d1)).get b=some o:=fun b o Y hn=>by
  rw[Af _ (Ba f Y (fun x=>hn _ _ x.symm))];exact Y
 simp only[Afw,W6 f,Xk,dr];have q0:=A _ _ X (by intros;simp[Av]);have q2:=A _ _ g2 (by intros;simp[Av]);have q3:=A _ _ g3 (by intros;simp[Av]);have O:=A _ _ g4 (by intros;simp[Av]);have q5:=A _ _ g5 (by intros;simp[Av]);have U:(h.put l1 (Av TT 146 27 0 tm1 .busy none d1)).get l1=some (Av TT 146 27 0 tm1 .busy none d1):=Ae _ _ _;have x1:Au (fun j=>j=l0\/j=b4\/j=l1) h (h.put l1 (Av TT 146 27 0 tm1 .busy none d1)):=(Au.refl h).Ao (.inl (.inr (.inr rfl))) J _;have F:HB (h.put l1 (Av TT 146 27 0 tm1 .busy none d1)):=hb.put J _;have n1:(h.put l1 (Av TT 146 27 0 tm1 .busy none d1)).next=h.next:=rfl
 generalize h.put l1 (Av TT 146 27 0 tm1 .busy none d1)=h1 at q0 U q2 q3 O q5 x1 F n1⊢;simp only[Cz q2 rfl,Cz q5 rfl,Aa];have hc:Rf (Ag TT disp K (e+1) false) (Ag TT disp K (e+1) true) (.U1 l0) [I dd,I x] h1=Ag TT disp K (e+1) true l0 [I dd,I x] h1:=rfl;rw[hc];obtain⟨h2,r1,L,G,W,r5⟩:=Bjs (K:=K) H (e:=e) (by omega) (i:=dd) (x:=x) q0 t3 t4 q3 O F;rw[r1,Ap];have B:h2.get l1=some (Av TT 146 27 0 tm1 .busy none d1):=Au.at W F U (fun y=>by
  rcases y with y|y
  ·exact E y
  ·exact Ba U O (by simp[Av]) y)
 have n2:=W.next
 have x2:Au (fun j=>j=l0\/j=b4\/j=l1) h h2:=x1.trans (W.mono fun j hj=>hj.elim .inl (fun y=>.inr (.inl y)));by_cases hx:x=z
 ·simp only[hx,aC,aA,aB,bI]at L G⊢
  simp only[Aa];rw[Np B];refine⟨_,rfl,?_,Ae _ _ _,?_,x2.Ao (.inl (.inr (.inr rfl))) (by omega) _,r5.put (by omega) _⟩
  ·rw[Af _ E];exact L
  ·rw[Af _ (Ba B G (by simp[Av]))];exact G
 ·simp only[hx,aF,aA,aB,aY]at L G⊢
  simp only[Aa];rw[Np B];refine⟨_,rfl,?_,Ae _ _ _,?_,x2.Ao (.inl (.inr (.inr rfl))) (by omega) _,r5.put (by omega) _⟩
  ·rw[Af _ E];exact L
  ·rw[Af _ (Ba B G (by simp[Av]))];exact G
end
end
section
structure Bbx(h:Ab)(l0 d0:Nat)(tm:Bb)(b3 b4:Nat)(z:Int)(b2:Nat)(found:Bool):Prop where
 lp:h.get l0=some (Av TT 18 14 0 tm (if found then .done else .ready) (if found then some .ret else none) d0)
 c3:h.get b3=some (.cells [I z] 3)
 c4:h.get b4=some (.cells [.bool found] 4)
 c2:h.get b2=some (.cells [.U1 l0] 213)
 hb:HB h
structure Bom(tm:Bb)(b3 b4:Nat):Prop where
 t3:tmp tm 3=.ptr b3 0
 t4:tmp tm 4=.ptr b4 0
section
variable (H:Bw disp){z:Int}(T0:Bom tm b3 b4){l1 d1:Nat}{b5:Nat}{dd:Int}(u2:tmp tm1 2=.ptr b2 0)(u3:tmp tm1 3=.ptr b5 0)
include H T0 u2 u3
theorem Bh2(he:3<=e)(hn:xs.length<=4096):∀(m i:Nat) (h:Ab) (s:EV) (q':Nat),xs.length-i<m->i<=xs.length->Bbx h l0 d0 tm b3 b4 z b2 false->h.get l1=some (Av TT 146 27 0 tm1 .ready none d1)->h.get b5=some (.cells [I dd] 3) ->
 Cc h s q' 3 1 xs.length (xs.map I)->(xs.take i).contains z=false ->
 Ok (Jn (Ag TT disp K e false) (Ag TT disp K e true) K m (.U1 l1) s (I xs.length) (I i) h) fun v h'=>v=.tuple []/\Bbx h' l0 d0 tm b3 b4 z b2 (xs.contains z)/\h'.get l1=some (Av TT 146 27 0 tm1 (if xs.contains z then .done else .ready) (if xs.contains z then some .ret else none) d1)/\Au (fun j=>j=l0\/j=b4\/j=l1) h h':=by
 intro m;induction m with
 | zero=>intro i h s q' hm;omega
 | succ m ih=>
  intro i h s q' hm hi L g1 g5 row A;simp only[Jn,I,Ac,Aa];by_cases J:(i:Int)<xs.length
  ·have B:i<xs.length:=by omega
   have C:=row.block (by omega);simp only[J,aB,Aa,Abn];rw[row.ix B,Cz C rfl,bk,bA,aH B,dV,Gr];obtain⟨e,rfl⟩:∃k,e=k+1:=⟨e-1,by omega⟩;have hc:Rf (Ag TT disp K (e+1) false) (Ag TT disp K (e+1) true) (.U1 l1) [I i,I xs[i]] h=Ag TT disp K (e+1) true l1 [I i,I xs[i]] h:=rfl;obtain⟨h2,r1,W,X,Y,r5,r6⟩:=Bjr (K:=K) H (e:=e) (by omega) (i:=i) (x:=xs[i]) L.lp T0.t3 T0.t4 L.c3 L.c4 g1 u2 u3 L.c2 g5 L.hb;have ad:∀k:EV->Ab->R,Am (Rf (Ag TT disp K (e+1) false) (Ag TT disp K (e+1) true) (.U1 l1) [.int .i64 (i:Int),I xs[i]] h) k=k (.bool (decide (¬xs[i]=z))) h2:=fun k=>by
    have:Rf (Ag TT disp K (e+1) false) (Ag TT disp K (e+1) true) (.U1 l1) [.int .i64 (i:Int),I xs[i]] h=some (.bool (decide (¬xs[i]=z)),h2):=hc.trans r1;rw[this,Ap]
   rw[ad];have f:∀b o,h.get b=some o->(∀st p,o≠Av TT 18 14 0 tm st p d0)->(∀st p,o≠Av TT 146 27 0 tm1 st p d1)->(∀v,o≠.cells [v] 4)->h2.get b=some o:=fun b o E n0 n1 n4=>Au.at r5 L.hb E fun y=>by
    rcases y with rfl|rfl|rfl
    ·rw[L.lp]at E;cases E;exact n0 _ _ rfl
    ·rw[L.c4]at E;cases E;exact n4 _ rfl
    ·rw[g1]at E;cases E;exact n1 _ _ rfl
   have k3:=f _ _ L.c3 (by intros;simp[Av]) (by intros;simp[Av]) (by intros;simp);have k2:=f _ _ L.c2 (by intros;simp[Av]) (by intros;simp[Av]) (by intros;simp);have k5:=f _ _ g5 (by intros;simp[Av]) (by intros;simp[Av]) (by intros;simp);by_cases G:xs[i]=z
   ·have O:xs.contains z=true:=by
     rw[List.contains_iff_mem,<-G];exact av B
    simp only[G,bI,aB]at W X Y;simp only[G,aC,aA,Aa];exact .ret ⟨rfl,by rw[O];exact⟨W,k3,Y,k2,r6⟩,by rw[O];exact X,r5⟩
   ·simp only[G,aY,aA]at W X Y
    simp only[G,aF,aB,Aa,Acg,Ac];rw[Cg];have F:Cc h2 s q' 3 1 xs.length (xs.map I):=row.frame fun _=>by
     rw[f _ _ C (by intros;simp[Av]) (by intros;simp[Av]) (by intros;simp),C]
    have U:(xs.take (i+1)).contains z=false:=by
     rw[cy B];simp only[List.contains_eq_mem,bP,aP,cm]at A⊢;intro y;rcases y with y|y
     ·exact A y
     ·exact G y.symm
    refine(ih (i+1) h2 s q' (by omega) (by omega) ⟨W,k3,Y,k2,r6⟩ X k5 F U).mono ?_;rintro v h' ⟨a1,a2,a3,a4⟩;exact⟨a1,a2,a3,r5.trans a4⟩
  ·have:i=xs.length:=by omega
   subst this;simp only[J,aA,Aa];rw[cL]at A;exact .ret ⟨rfl,by rw[A];exact L,by rw[A];exact g1,Au.refl _⟩
theorem Bp4(he:3<=e)(hK:5000<K){F q c:Nat}(G:h.get F=some (.cells [.ptr q 0] 199))(hq:h.get q=some (.cells [.chan c] 266))(hc:h.get c=some (.chan cap (xs.map I)))(B:xs.length<=cap)(C:cap<=4096)
 (L:Bbx h l0 d0 tm b3 b4 z b2 false) (J:h.get l1=some (Av TT 146 27 0 tm1 .ready none d1)) (O:h.get b5=some (.cells [I dd] 3)) :
 Ok (Ag TT disp K (e+1) false 199 [.U1 l1,.ptr F 0] h) fun v h'=>Bbx h' l0 d0 tm b3 b4 z b2 (xs.contains z)/\h'.get l1=some (Av TT 146 27 0 tm1 (if xs.contains z then .done else .ready) (if xs.contains z then some .ret else none) d1) /\
  (∀i,i<h.next->¬(i=l0\/i=b4\/i=l1)->h'.get i=h.get i)/\Au (fun j=>j=c\/j=l0\/j=b4\/j=l1) h h':=by
 rw[An2 H (by omega)];simp only[Ah9,Cz G rfl,Aa];refine(A38 hq hc B C L.hb hK).Am ?_;rintro s E ⟨q',y⟩;rw[y.row.Hc];have same:=y.same hc;have f:∀i o,h.get i=some o->E.get i=some o:=fun i o g=>by rw[same i (L.hb _ _ g)];exact g
 have U:Bbx E l0 d0 tm b3 b4 z b2 false:=⟨f _ _ L.lp,f _ _ L.c3,f _ _ L.c4,f _ _ L.c2,y.hb⟩;refine(Bh2 (K:=K) H T0 u2 u3 he (by omega) K 0 E s q' (by omega) (by omega) U (f _ _ J) (f _ _ O) y.row (by simp)).mono ?_;rintro v h' ⟨_,W,a3,a4⟩;refine⟨W,a3,fun i A hn=>by rw[a4.get i (aN A y.chg.next) hn,same i A],?_⟩;exact(y.chg.mono fun i A=>.inl A).trans (a4.mono fun i A=>.inr A)
end
end
section
def hasB(ps:Nat->List Int)(n:Nat)(z:Int):Bool:=(List.range n).any fun d=>(ps d).contains z
theorem Bjy(ps:Nat->List Int)(n:Nat)(z:Int):hasB ps (n+1) z=(hasB ps n z||(ps n).contains z):=by
 unfold hasB;rw[dJ,List.any_append];simp
theorem Bgw{z:Int}:hasB ps n z=true↔∃d,d<n/\z∈ps d:=by
 unfold hasB;simp
theorem Box{z:Int}(hd:d<n)(h:(ps d).contains z=true):hasB ps n z=true:=Bgw.2 ⟨d,hd,List.contains_iff_mem.1 h⟩
structure Mid(h0 h:Ab)(C:Nat->Prop)(l0 d0:Nat)(tm:Bb)(b3 b4:Nat)(z:Int)(b2:Nat)(found:Bool):Prop where
 kp:Kp C h0 h
 look:Bbx h l0 d0 tm b3 b4 z b2 found
 cd:h.get d0=some (.deferred true)
 n0:h0.next<=l0
 n4:h0.next<=b4
 nd:h0.next<=d0
section
variable (H:Bw disp){p:Nat}{q c:Nat->Nat}{g:Gm}(P:E0 h0 p ql n q c g ps)(hb0:HB h0)(hps:∀d,d<n->(ps d).length<=g.Z.toNat)(hZ:g.Z<=4096)(hn:n<=64)
variable{z:Int}(T0:Bom tm b3 b4)
include H P hb0 hps hZ hn T0
theorem Bmr(he:4<=e)(hK:5000<K):∀(m i:Nat) (h:Ab) (t1:Bb) (ds:List Nat),n-i<m->i<=n->Mid h0 h (fun x=>∃d,d<n/\x=c d) l0 d0 tm b3 b4 z b2 false->tmp t1 2=.ptr b2 0 ->
 ds.Nodup->(∀d∈ds,h.get d=some (.deferred true)/\h0.next<=d/\d≠d0)->hasB ps i z=false ->
 Ok (Lx (Ag TT disp K e false) (Ag TT disp K e true) K m t1 (.slice ql 0 n n true) (I n) (I i) h ds) fun v h'=>Mid h0 h' (fun x=>∃d,d<n/\x=c d) l0 d0 tm b3 b4 z b2 (hasB ps n z):=by
 intro m;induction m with
 | zero=>intro i h t1 ds hm;omega
 | succ m ih=>
  intro i h t1 ds hm hi M u2 af aa ag;have fin:∀(h2:Ab) (dl:List Nat) (found:Bool),found=hasB ps n z->Mid h0 h2 (fun x=>∃d,d<n/\x=c d) l0 d0 tm b3 b4 z b2 found->dl.Nodup->(∀d∈dl,h2.get d=some (.deferred true)/\h0.next<=d/\d≠d0) ->
   Ok (Fi dl h2 fun h=>some (EV.tuple [],h)) fun v h'=>Mid h0 h' (fun x=>∃d,d<n/\x=c d) l0 d0 tm b3 b4 z b2 (hasB ps n z):=by
   rintro h2 dl found rfl M2 a2 L;refine Ok.unwind a2 (fun d hd=>(L d hd).1) M2.look.hb fun h3 ch b6=>.ret ?_
   have nk:∀b o,h2.get b=some o->o≠.deferred true->¬(b∈dl):=fun b o F f hb=>by rw[(L b hb).1]at F;cases F;exact f rfl
   have a:∀b o,h2.get b=some o->o≠.deferred true->h3.get b=some o:=fun b o F f=>Au.at ch M2.look.hb F (nk b o F f)
   refine⟨M2.kp.A8b ch fun i hi=>(L i hi).2.1,⟨a _ _ M2.look.lp (by simp[Av]),a _ _ M2.look.c3 (by simp),a _ _ M2.look.c4 (by simp),a _ _ M2.look.c2 (by simp),ch.hb M2.look.hb⟩,Au.at ch M2.look.hb M2.cd (fun y=>(L _ y).2.2 rfl),M2.n0,M2.n4,M2.nd⟩
  simp only[Lx,I,Ac,Aa];by_cases ah:(i:Int)<n
  ·have A:i<n:=by omega
   have a5:∀b o,h0.get b=some o->h.get b=some o:=fun b o F=>M.kp.at hb0 F
   have P1:=P.ext a5;simp only[ah,aB,Aa,Afe];rw[P1.rowAt.ix A,P1.Bbf A]
   try simp only[Aa]
   refine Ok.st1 (Ad _ _) rfl rfl (by show 0<1;decide) ?_;have b8:=M.kp.chg.next
   have x1:Ext h ((h.new (.cells [.int .i64 0] 3)).put h.next (.cells [EV.int .i64 (i:Int)] 3)):=(Au.new _ _:Ext h _).Ao (.inr (aD _)) (aR _) _;have g5:((h.new (.cells [.int .i64 0] 3)).put h.next (.cells [EV.int .i64 (i:Int)] 3)).get h.next=some (.cells [I i] 3):=Ae _ _ _
   simp only[List.set];generalize (h.new (.cells [.int .i64 0] 3)).put h.next (.cells [EV.int .i64 (i:Int)] 3)=W at x1 g5⊢
   have a8:=x1.hb M.look.hb;have ca:=x1.next
   simp only[Acr,Aa];have x2:Ext h (W.new (.cells [.ptr (q i) 0] 199)):=x1.C8 _;have g6:(W.new (.cells [.ptr (q i) 0] 199)).get W.next=some (.cells [.ptr (q i) 0] 199):=Ad _ _
   have ai:(W.new (.cells [.ptr (q i) 0] 199)).get h.next=some (.cells [I i] 3):=by rw[Ay _ (a8 _ _ g5)];exact g5
   have n2:W.next<(W.new (.cells [.ptr (q i) 0] 199)).next:=aR _
   generalize W.new (.cells [.ptr (q i) 0] 199)=h2 at x2 g6 ai n2⊢;have bb:=x2.hb M.look.hb;generalize ad:(((((((t1.put 13 (some (EV.bool true))).put 14 (some (EV.int .i64 (i:Int)))).put 15 (some (EV.ptr ql (i*1)))).put 16 (some (EV.ptr (q i) 0))).put 3 (some (EV.ptr h.next 0))).put 4 (some (EV.ptr (q i) 0))).put 17 (some (EV.ptr (q i) 0))).put 18 (some (EV.func 199 [] [EV.ptr W.next 0]))=t2;have v2:tmp t2 2=.ptr b2 0:=by rw[<-ad];simp only[G3,reduceIte,Nat.reduceEqDiff,u2]
   have v3:tmp t2 3=.ptr h.next 0:=by rw[<-ad];simp only[G3,reduceIte,Nat.reduceEqDiff]
   have bf:∀w,tmp ((t2.put 26 (some w)).put 12 (some w)) 2=.ptr b2 0:=fun w=>by simp only[G3,reduceIte,Nat.reduceEqDiff,v2]
   clear ad;refine Ok.range ?_;have x3:Ext h (Ca TT 146 27 0 t2 h2):=x2.trans Hg;have al:=x3.hb M.look.hb;have C:∀b o,h.get b=some o->(Ca TT 146 27 0 t2 h2).get b=some o:=fun b o F=>x3.at M.look.hb F
   have X:∀b o,h2.get b=some o->(Ca TT 146 27 0 t2 h2).get b=some o:=fun b o F=>Ext.at Hg bb F
   have L3:Bbx (Ca TT 146 27 0 t2 h2) l0 d0 tm b3 b4 z b2 false:=⟨C _ _ M.look.lp,C _ _ M.look.c3,C _ _ M.look.c4,C _ _ M.look.c2,al⟩;have P3:=P1.ext C;obtain⟨e,rfl⟩:∃k,e=k+1:=⟨e-1,by omega⟩;refine(Bp4 (K:=K) H T0 (l1:=h2.next+1) (d1:=h2.next) v2 v3 (e:=e) (by omega) hK (X _ _ g6) (P3.que i A) (P3.chan i A) (hps i A) (by omega) L3 Hp (X _ _ ai)).mono ?_;rintro v h4 ⟨L4,E,B,aq⟩;have cf:=aq.next
   have cl:h2.next+1<(Ca TT 146 27 0 t2 h2).next:=by rw[A0i];omega
   have bj:Kp (fun x=>∃d,d<n/\x=c d) h0 h4:=by
    refine⟨(M.kp.chg.trans (Ext.to x3)).then aq ?_,fun j hj=>?_⟩
    ·rintro j (rfl|rfl|rfl|rfl) hl
     ·exact⟨i,A,rfl⟩
     ·have:=M.n0;omega
     ·have:=M.n4;omega
     ·have:=x2.next;omega
    ·have bn:j<(Ca TT 146 27 0 t2 h2).next:=by have:=x3.next;omega
     rw[B j bn (by rintro(rfl|rfl|rfl)<;>(have:=M.n0;have:=M.n4;have:=x2.next;omega)),x3.get j (by omega) id];exact M.kp.same j hj
   have bo:h4.get h2.next=some (.deferred true):=by
    rw[B _ (by omega) ?_]
    ·exact Je
    ·rintro(y|y|y)
     ·have:=M.look.hb _ _ M.look.lp;omega
     ·have:=M.look.hb _ _ M.look.c4;omega
     ·omega
   have G:∀d,h.get d=some (.deferred true)->h4.get d=some (.deferred true):=fun d gd=>by
    have au:=C _ _ gd;rw[B d (al _ _ au) ?_]
    ·exact au
    ·rintro(rfl|rfl|rfl)
     ·rw[M.look.lp]at gd;cases gd
     ·rw[M.look.c4]at gd;cases gd
     ·have:=M.look.hb _ _ gd;omega
   have bp:∀o,h4.get (h2.next+1)=some o->∀b o',h4.get b=some o'->(∀st p,o'≠Av TT 146 27 0 t2 st p h2.next)->b≠h2.next+1:=by
    intro o ho b o' J f e';subst e';rw[E]at J;cases J;exact f _ _ rfl
   have O:∀(p5:Option Code),Mid h0 (h4.put (h2.next+1) (Av TT 146 27 0 t2 .exhausted p5 h2.next)) (fun x=>∃d,d<n/\x=c d) l0 d0 tm b3 b4 z b2 ((ps i).contains z):=by
    intro p5;have aw:h2.next+1<h4.next:=by omega
    have pn:∀b o',h4.get b=some o'->(∀st p,o'≠Av TT 146 27 0 t2 st p h2.next)->(h4.put (h2.next+1) (Av TT 146 27 0 t2 .exhausted p5 h2.next)).get b=some o':=fun b o' J f=>by
     rw[Af _ (cT (bp _ E b o' J f))];exact J
    refine⟨bj.Ao (by have:=x2.next;omega) aw _,⟨pn _ _ L4.lp (by intros;simp[Av]),pn _ _ L4.c3 (by intros;simp[Av]),pn _ _ L4.c4 (by intros;simp[Av]),pn _ _ L4.c2 (by intros;simp[Av]),L4.hb.put aw _⟩,pn _ _ (G _ M.cd) (by intros;simp[Av]),M.n0,M.n4,M.nd⟩
   have Y:∀(p5:Option Code),∀d∈h2.next::ds,(h4.put (h2.next+1) (Av TT 146 27 0 t2 .exhausted p5 h2.next)).get d=some (.deferred true)/\h0.next<=d/\d≠d0:=by
    intro p5 d hd;rcases bW.1 hd with rfl|hd
    ·exact⟨by rw[Af _];exact bo,by have:=x2.next;omega,by have:=M.look.hb _ _ M.cd;omega⟩
    ·obtain⟨a,b,c'⟩:=aa d hd
     exact⟨by rw[Af _ (by have:=M.look.hb _ _ a;omega)];exact G _ a,b,c'⟩
   have ay:(h2.next::ds).Nodup:=cV.2 ⟨fun hd=>by have:=M.look.hb _ _ (aa _ hd).1;omega,af⟩;cases U:(ps i).contains z with
   | true=>
    rw[U]at E O;refine .inr ⟨E,?_⟩;exact fin _ _ true (Box A U).symm (O _) ay (Y _)
   | false=>
    rw[U]at E O;refine .inl ⟨E,?_⟩;simp only[Ph,Ac];rw[Cg];exact ih (i+1) _ _ _ (by omega) (by omega) (O _) (bf _) ay (Y _) (by rw[Bjy,ag,U];rfl)
  ·have:i=n:=by omega
   subst this;simp only[ah,aA,Aa];exact fin h ds false ag.symm M af aa
end
section
variable (H:Bw disp){p:Nat}{q c:Nat->Nat}{g:Gm}(P:E0 h0 p ql n q c g ps)(hb0:HB h0)(hps:∀d,d<n->(ps d).length<=g.Z.toNat)(hZ:g.Z<=4096)(hn:n<=64)
include H P hb0 hps hZ hn
theorem Bnf(hd:7<=d)(hK:5000<K)(z:Int):Ok (Ag TT disp K d false 18 [.ptr p 0,I z] h0) fun v h'=>v=.bool (hasB ps n z)/\Kp (fun x=>∃d,d<n/\x=c d) h0 h'/\HB h':=by
 obtain⟨e,rfl⟩:∃k,d=k+2:=⟨d-2,by omega⟩;rw[Avt H (by omega)];simp only[As3,I,Aa,Ajk];have x1:Ext h0 (((h0.new (.cells [.int .i64 z] 3)).new (.cells [.bool false] 4)).new (.cells [.ptr p 0] 43)):=((Au.new _ _).C8 _).C8 _;have n1:(((h0.new (.cells [.int .i64 z] 3)).new (.cells [.bool false] 4)).new (.cells [.ptr p 0] 43)).next=h0.next+3:=rfl
 have C:(((h0.new (.cells [.int .i64 z] 3)).new (.cells [.bool false] 4)).new (.cells [.ptr p 0] 43)).get (h0.next+2)=some (.cells [.ptr p 0] 43):=Ad _ _;have g4:(((h0.new (.cells [.int .i64 z] 3)).new (.cells [.bool false] 4)).new (.cells [.ptr p 0] 43)).get (h0.next+1)=some (.cells [.bool false] 4):=by
  rw[Ay _ (aR _)];exact Ad _ _
 have g3:(((h0.new (.cells [.int .i64 z] 3)).new (.cells [.bool false] 4)).new (.cells [.ptr p 0] 43)).get h0.next=some (.cells [I z] 3):=by
  rw[Ay _ (show h0.next<h0.next+2 by omega),Ay _ (show h0.next<h0.next+1 by omega)];exact Ad _ _
 have ag:((h0.new (.cells [.int .i64 z] 3)).new (.cells [.bool false] 4)).next=h0.next+2:=rfl
 have ah:(h0.new (.cells [.int .i64 z] 3)).next=h0.next+1:=rfl
 rw[ag,ah];generalize ((h0.new (.cells [.int .i64 z] 3)).new (.cells [.bool false] 4)).new (.cells [.ptr p 0] 43)=f at x1 n1 C g4 g3⊢;have L:=x1.hb hb0;generalize O:(((((Tr.nil.put 0 (some (EV.ptr p 0))).put 1 (some (EV.int .i64 z))).put 3 (some (EV.ptr h0.next 0))).put 4 (some (EV.ptr (h0.next+1) 0))).put 7 (some (EV.ptr p 0))).put 8 (some (EV.func 146 [] [EV.ptr (h0.next+2) 0]))=tm;have T0:Bom tm h0.next (h0.next+1):=⟨by rw[<-O];simp only[G3,reduceIte,Nat.reduceEqDiff],by rw[<-O];simp only[G3,reduceIte,Nat.reduceEqDiff]⟩
 clear O;refine Ok.range ?_;rw[Ar1 H (by omega)];simp only[Am8,Aa];have x2:Ext f (Ca TT 18 14 0 tm f):=Hg;have Y:=x2.hb L;have ai:P9 213 (.U1 (f.next+1)) (Ca TT 18 14 0 tm f)=fun(k:EV->Ab->R)=>k (.ptr (f.next+2) 0) ((Ca TT 18 14 0 tm f).new (.cells [.U1 (f.next+1)] 213)):=rfl
 rw[ai];have x3:Ext f ((Ca TT 18 14 0 tm f).new (.cells [.U1 (f.next+1)] 213)):=x2.C8 _;have k2:((Ca TT 18 14 0 tm f).new (.cells [.U1 (f.next+1)] 213)).get (f.next+2)=some (.cells [.U1 (f.next+1)] 213):=Ad _ _;have kl:((Ca TT 18 14 0 tm f).new (.cells [.U1 (f.next+1)] 213)).get (f.next+1)=some (Av TT 18 14 0 tm .ready none f.next):=by rw[Ay _ (Y _ _ Hp)];exact Hp
 have kd:((Ca TT 18 14 0 tm f).new (.cells [.U1 (f.next+1)] 213)).get f.next=some (.deferred true):=by rw[Ay _ (Y _ _ Je)];exact Je
 generalize (Ca TT 18 14 0 tm f).new (.cells [.U1 (f.next+1)] 213)=h3 at x3 k2 kl kd⊢;have aj:=x3.hb L;have E:∀b o,f.get b=some o->h3.get b=some o:=fun b o C=>x3.at L C
 have P3:E0 h3 p ql n q c g ps:=P.ext fun b o C=>E _ _ (x1.at hb0 C)
 simp only[Cz (E _ _ C) rfl,Aa,P3.list];have M3:Mid h0 h3 (fun x=>∃d,d<n/\x=c d) (f.next+1) f.next tm h0.next (h0.next+1) z (f.next+2) false:=
  ⟨Ext.kp (x1.trans x3),⟨kl,E _ _ g3,E _ _ g4,k2,aj⟩,kd,by omega,by omega,by omega⟩
 refine(Bmr (K:=K) H P hb0 hps hZ hn T0 (e:=e) (by omega) hK K 0 h3 _ [] (by omega) (by omega) M3 (by simp only[G3,reduceIte,Nat.reduceEqDiff]) dF (fun d hd=>by cases hd) rfl).mono ?_;rintro v h4 A;have aa:=A.look.hb _ _ A.look.lp;have nl:∀b o st G,h4.get b=some o->(∀st p,o≠Av TT 18 14 0 tm st p f.next)->(h4.put (f.next+1) (Av TT 18 14 0 tm st G f.next)).get b=some o:=fun b o st G C al=>by
  rw[Af _ (Ba A.look.lp C (fun y=>al _ _ y.symm))];exact C
 have J:∀st G,Kp (fun x=>∃d,d<n/\x=c d) h0 (h4.put (f.next+1) (Av TT 18 14 0 tm st G f.next)):=fun st G=>A.kp.Ao (by omega) aa _
 have F:∀st G,HB (h4.put (f.next+1) (Av TT 18 14 0 tm st G f.next)):=fun st G=>A.look.hb.put aa _
 have j:∀(B:Ab) (b:Bool),B.get (h0.next+1)=some (.cells [.bool b] 4)->Ii TT [.c (.ptr (h0.next+1) 0) 4] B=some (.bool b,B):=by
  intro B b hg;have hr:Iw B (h0.next+1) 0 1=some [.bool b]:=by unfold Iw;rw[hg];rfl
  unfold Ii;simp only[Azi,show TT.size 4=some 1 by kernel_rfl,show TT.agg 4=some false by kernel_rfl,hr]
 cases hf:hasB ps n z with
 | true=>
  rw[hf]at A;refine .inr ⟨A.look.lp,?_⟩;refine Ok.unwind (cV.2 ⟨by simp,dF⟩) (fun d hd=>by rw[aP]at hd;subst hd;exact nl _ _ _ _ A.cd (by intros;simp[Av])) (F _ _) fun B U ao=>?_
  have W:B.get (h0.next+1)=some (.cells [.bool true] 4):=Au.at U (F _ _) (nl _ _ _ _ A.look.c4 (by intros;simp[Av])) (by simp;omega);rw[j B true W];exact .ret ⟨rfl,(J _ _).A8b U fun i hi=>by rw[aP]at hi;omega,U.hb (F _ _)⟩
 | false=>
  rw[hf]at A;refine .inl ⟨A.look.lp,?_⟩;simp only[Aab,dr];refine Ok.st1 (nl _ _ _ _ A.look.c4 (by intros;simp[Av])) rfl rfl (by show 0<1;decide) ?_;have ab:h0.next+1<(h4.put (f.next+1) (Av TT 18 14 0 tm .exhausted none f.next)).next:=A.look.hb _ _ A.look.c4
  have X:HB ((h4.put (f.next+1) (Av TT 18 14 0 tm .exhausted none f.next)).put (h0.next+1) (.cells ([EV.bool false].set 0 (.bool false)) 4)):=(F _ _).put ab _;refine Ok.unwind (cV.2 ⟨by simp,dF⟩) (fun d hd=>by rw[aP]at hd;subst hd;rw[Af _];exact nl _ _ _ _ A.cd (by intros;simp[Av])) X fun B U ao=>?_
  have W:B.get (h0.next+1)=some (.cells [.bool false] 4):=Au.at U X (Ae _ _ _) (by simp;omega);rw[j B false W];exact .ret ⟨rfl,((J _ _).Ao (by omega) ab _).A8b U fun i hi=>by rw[aP]at hi;omega,U.hb X⟩
end
end
section
def Eu(g:Gm)(z:Int):Int:=if z<0\/g.D*g.Z<=z then -1 else z/g.Z
theorem Jh {g:Gm}(s:Sm g)(z:Int)(G : -9223372036854775808<=z/\z<=9223372036854775807)(h:Ab):Ok (Er K (gV g) (I z) h) fun v h'=>v=I (Eu g z)/\Ext h h':=by
 have:=s.d0;have:=s.d1;have:=s.z0;have:=s.z1;obtain⟨J,L⟩:=N3 (a:=g.D) (b:=g.Z) (A:=8) (B:=64) (by omega) (by omega) (by omega) (by omega);simp only[Er,gV,Aa,I,Ac];have C:(h.new (.cells (gL g) 23)).get h.next=some (.cells (gL g) 23):=Ad _ _
 have hn:h.next<(h.new (.cells (gL g) 23)).next:=aR _
 have y:Ext h (h.new (.cells (gL g) 23)):=Au.new _ _;generalize h.new (.cells (gL g) 23)=E at C hn y⊢;unfold Eu;by_cases F:z<0
 ·simp only[F,aB,Aa,Ac,Ug]
  exact .ret ⟨by rw[aQ (.inl trivial)],y⟩
 ·simp only[F,aA,Aa,Ac,Cy C rfl,Ak (show(gL g).length=6 from rfl)]
  rw[show EV.agg (gL g)=gV g from rfl,Ni s,Ap];simp only[I,Ac,Ug];by_cases h2:g.D*g.Z<=z
  ·simp only[h2,aB,Aa]
   exact .ret ⟨by rw[aQ (.inr trivial)],y.C8 _⟩
  ·have f:(E.new (.cells (gL g) 23)).get h.next=some (.cells (gL g) 23):=by rw[Ay _ hn];exact C
   have j:Ext h (E.new (.cells (gL g) 23)):=y.C8 _;generalize E.new (.cells (gL g) 23)=hc at f j⊢;simp only[h2,aA,Aa,Adk,Cz f rfl,gL,I];rw[Boh (by omega) (by omega) (by omega)];exact .ret ⟨by rw[aM (by rintro(x|x)<;>exact x)],j⟩
def upd(ps:Nat->List Int)(d:Nat)(l:List Int):Nat->List Int:=fun e=>if e=d then l else ps e
def Aw8(n:Nat)(c:Nat->Nat):Nat->Prop:=fun x=>∃d,d<n/\x=c d
def A77:By->Prop
 | .chan ..=>False
 | _=>True
theorem E0.Bpi{p:Nat}{q c:Nat->Nat}{g:Gm}(P:E0 h p ql n q c g ps){b:Nat}(f:h.get b=some o)(j:A77 o):¬Aw8 n c b:=by
 rintro⟨d,hd,rfl⟩;rw[P.chan d hd]at f;cases f;exact j
theorem E0.put{p:Nat}{q c:Nat->Nat}{g:Gm}(P:E0 h p ql n q c g ps)(hd:d<n)(l:List Int):E0 (h.put (c d) (.chan g.Z.toNat (l.map I))) p ql n q c g (upd ps d l):=by
 have ne:∀b o,h.get b=some o->A77 o->(h.put (c d) (.chan g.Z.toNat (l.map I))).get b=some o:=fun b o j y=>by
  rw[Af _ (fun e=>P.Bpi j y ⟨d,hd,e.symm⟩)];exact j
 refine⟨P.pos,ne _ _ P.Gd trivial,ne _ _ P.row trivial,fun e he=>ne _ _ (P.que e he) trivial,fun e he=>?_,P.inj⟩;unfold upd;by_cases f:e=d
 ·subst f;rw[aQ rfl];exact Ae _ _ _
 ·rw[aM f,Af _ (fun x=>f (P.inj _ _ he hd x.symm))];exact P.chan e he
theorem E0.kp{p:Nat}{q c:Nat->Nat}{g:Gm}(P:E0 h p ql n q c g ps)(hb:HB h)(k:Kp S h h'):E0 h' p ql n q c g ps:=P.ext fun i o g=>k.at hb g
structure Ti(n:Nat)(g:Gm)(ps:Nat->List Int):Prop where
 nd:n=g.D.toNat
 sm:Sm g
 cap:∀d,d<n->(ps d).length<=g.Z.toNat
theorem Ti.bd{g:Gm}(z:Ti n g ps):n<=8/\g.Z<=64/\(n:Int)=g.D:=by
 have:=z.nd;have:=z.sm.d0;have:=z.sm.d1;have:=z.sm.z1;omega
theorem Ti.small{g:Gm}(z:Ti n g ps):Bcl n ps:=by
 obtain⟨a,b,_⟩:=z.bd;exact⟨by omega,fun d hd=>by have:=z.cap d hd;omega⟩
theorem Ti.upd{g:Gm}(z:Ti n g ps){l:List Int}(f:l.length<=g.Z.toNat):Ti n g (upd ps d l):=
 ⟨z.nd,z.sm,fun e he=>by unfold Ev.upd;split;exact f;exact z.cap e he⟩
def Ash(g:Gm)(n:Nat)(ps:Nat->List Int)(z:Int):Int × (Nat->List Int):=
 if Eu g z<0 then(13,ps)else if hasB ps n z then(16,ps)else
  if(ps (Eu g z).toNat).length<g.Z.toNat then(0,upd ps (Eu g z).toNat (ps (Eu g z).toNat++[z]))else(17,ps)
theorem Aew {g:Gm}(s:Sm g)(z:Int):Eu g z = -1\/(0<=Eu g z/\Eu g z<g.D/\Eu g z=z/g.Z/\0<=z/\z<g.D*g.Z):=by
 have:=s.z0;unfold Eu;split
 ·exact .inl rfl
 ·refine .inr ⟨Int.ediv_nonneg (by omega) (by omega),Int.ediv_lt_of_lt_mul (by omega) (by omega),rfl,by omega,by omega⟩
section
variable (H:Bw disp){p:Nat}{q c:Nat->Nat}{g:Gm}(P:E0 h p ql n q c g ps)(hb:HB h)(Z:Ti n g ps)(hK:5000<K)
include P hb Z hK
theorem A79(d:Int):Ok (O1 K (.ptr p 0) (I d) h) fun v h'=>Au (Aw8 n c) h h'/\HB h'/\∃x e f,v=.tuple [I x,I e]/\E0 h' p ql n q c g f/\Ti n g f /\
 ((d<0\/(n:Int)<=d)/\x=0/\e=13/\f=ps\/(0<=d/\d<n/\ps d.toNat = []/\x=0/\e=15/\f=ps)\/(0<=d/\d<n/\e=0/\∃r,ps d.toNat=x::r/\f=upd ps d.toNat r)):=by
 simp only[O1,I,Ac,Aa];by_cases y:d<0
 ·simp only[y,aB,Aa,Ac,Xl]
  exact .ret ⟨Au.refl _,hb,0,13,ps,rfl,P,Z,.inl ⟨.inl trivial,rfl,rfl,rfl⟩⟩
 ·simp only[y,aA,Aa,Ac,P.list,Xl]
  by_cases h2:(n:Int)<=d
  ·simp only[h2,aB,Aa]
   exact .ret ⟨Au.refl _,hb,0,13,ps,rfl,P,Z,.inl ⟨.inr trivial,rfl,rfl,rfl⟩⟩
  ·obtain⟨d,rfl⟩:=aZ (show 0<=d by omega)
   have hd:d<n:=by omega
   simp only[h2,aA,Aa,Ais,P.list];rw[P.rowAt.ix hd];simp only[P.Bbf hd];cases j:ps d with
   | nil=>
    rw[take_nil (P.que _ hd) (P.chan _ hd) j];simp only[Aa];exact .ret ⟨Au.refl _,hb,0,15,ps,rfl,P,Z,.inr (.inl ⟨by omega,by omega,j,rfl,rfl,rfl⟩)⟩
   | cons x r=>
    rw[take_cons (P.que _ hd) (P.chan _ hd) j];simp only[Aa];have lt:=hb _ _ (P.chan _ hd);refine .ret ⟨(Au.refl h).Ao (.inl ⟨_,hd,rfl⟩) lt _,hb.put lt _,x,0,upd ps d r,rfl,P.put hd r,Z.upd ?_,.inr (.inr ⟨by omega,by omega,rfl,r,j,rfl⟩)⟩;have:=Z.cap _ hd;rw[j]at this;simp at this;omega
include H
theorem Bf1(hd:8<=d)(z:Int)(O : -9223372036854775808<=z/\z<=9223372036854775807):Ok (Ag TT disp K d false 67 [.ptr p 0,I z] h) fun v h'=>Au (Aw8 n c) h h'/\HB h'/\v=I (Ash g n ps z).1/\E0 h' p ql n q c g (Ash g n ps z).2/\Ti n g (Ash g n ps z).2:=by
 obtain⟨e,rfl⟩:∃k,d=k+1:=⟨d-1,by omega⟩;obtain⟨b1,b2,b3⟩:=Z.bd;rw[Atj H (by omega)];simp only[Apl,Aa,P.Bc0];refine(Jh Z.sm z O h).Am ?_;rintro _ U ⟨rfl,C⟩;have A:=C.hb hb;have E:=P.ext fun i o g=>C.at hb g
 simp only[I,Ac];unfold Ash;rcases Aew Z.sm z with F|⟨d0,d1,d2,d3,d4⟩
 ·rw[F]
  simp only[show(-1:Int)<0 by decide,aB,Aa,bI];exact .ret ⟨Ext.to C,A,rfl,E,Z⟩
 ·have G:¬Eu g z<0:=by omega
  simp only[G,aA,Aa,aY];refine(Bnf (K:=K) H E A Z.cap (by omega) (by omega) (d:=e) (by omega) hK z).Am ?_;rintro _ h2 ⟨rfl,L,y⟩;have j:=E.kp A L;have B:Au (Aw8 n c) h h2:=(Ext.to C).trans L.chg;cases W:hasB ps n z with
  | true=>
   simp only[Aa,bI];exact .ret ⟨B,y,rfl,j,Z⟩
  | false=>
   have f:(Eu g z).toNat<n:=by omega
   simp only[Aa,Aho,j.list];rw[show Eu g z=((Eu g z).toNat:Int) by omega,j.rowAt.ix f];simp only[j.Bbf f,bG];have lt:=y _ _ (j.chan _ f);by_cases J:(ps (Eu g z).toNat).length<g.Z.toNat
   ·rw[A6a (j.que _ f) (j.chan _ f) z J,Ap]
    rw[aQ J];refine .ret ⟨B.Ao (.inl ⟨_,f,rfl⟩) lt _,y.put lt _,rfl,j.put f _,Z.upd ?_⟩;rw[aG];simp;omega
   ·rw[Bsc (j.que _ f) (j.chan _ f) z (by omega),Ap]
    rw[aM J];exact .ret ⟨B,y,rfl,j,Z⟩
end
end
section
def Tj(z:Int)(xs:List Int):List Int:=xs.filter fun x=>decide (¬x=z)
theorem Bmm(z x:Int)(r:List Int):Tj z (x::r)=(if x=z then[]else[x])++Tj z r:=by
 unfold Tj;rw[fJ];by_cases h:x=z<;>simp[h]
theorem Bd1(z:Int)(a b:List Int):Tj z (a++b)=Tj z a++Tj z b:=eI ..
theorem Bf0(z:Int)(xs:List Int):(Tj z xs).length<=xs.length:=eJ _ _
section
variable (H:Bw disp)(hK:5000<K)
include H hK
theorem Bi0(he:1<=e){q c:Nat}{z:Int}(y:h0.get q=some (.cells [.chan c] 266))(f:∃b,h0.get c=some (.chan cap b))(F:h0.get b3=some (.cells [I z] 3))(ab:xs.length<=cap)(ae:cap<=4096)(hb0:HB h0):∀(m i:Nat) (h:Ab),xs.length-i<m->i<=xs.length ->
 h.get c=some (.chan cap ((xs.drop i++Tj z (xs.take i)).map I))->Au (fun j=>j=c) h0 h->HB h ->
 Ok (Kn (Ag TT disp K e false) (Ag TT disp K e true) K m (.ptr q 0) (.func 265 [] [.ptr b3 0]) (I ((i:Int)-(Tj z (xs.take i)).length)) (I xs.length) (I i) h) fun v h'=>v=I ((xs.length:Int)-(Tj z xs).length)/\h'.get c=some (.chan cap ((Tj z xs).map I))/\Au (fun j=>j=c) h0 h'/\HB h':=by
 obtain⟨b0,f⟩:=f;have G:q≠c:=Ba y f (by simp);have X:b3≠c:=Ba F f (by simp);have lc:=hb0 _ _ f;intro m;induction m with
 | zero=>intro i h hm;omega
 | succ m ih=>
  intro i h hm hi hc x hb;simp only[Kn,I,Ac,Aa];by_cases J:(i:Int)<xs.length
  ·have L:i<xs.length:=by omega
   have hq:h.get q=some (.cells [.chan c] 266):=Au.at x hb0 y G;have O:c<h.next:=aN lc x.next
   have ed:xs.drop i=xs[i]::xs.drop (i+1):=dI L;have E:Tj z (xs.take (i+1))=Tj z (xs.take i)++(if xs[i]=z then[]else[xs[i]]):=by
    rw[cy L,Bd1,Bmm];simp[Tj]
   rw[ed,List.cons_append]at hc;have bl:=Bf0 z (xs.take i);rw[bH]at bl;simp only[J,aB,Aa,Ac7];rw[take_cons hq hc rfl];simp only[Aa,I,Ac,aC,aA,Adh];have U:Au (fun j=>j=c) h0 (h.put c (.chan cap ((xs.drop (i+1)++Tj z (xs.take i)).map I))):=x.Ao (.inl rfl) O _;have A:HB (h.put c (.chan cap ((xs.drop (i+1)++Tj z (xs.take i)).map I))):=hb.put O _;have B:(h.put c (.chan cap ((xs.drop (i+1)++Tj z (xs.take i)).map I))).get c=some (.chan cap ((xs.drop (i+1)++Tj z (xs.take i)).map I)):=Ae _ _ _;have Y:(h.put c (.chan cap ((xs.drop (i+1)++Tj z (xs.take i)).map I))).next=h.next:=rfl
   generalize h.put c (.chan cap ((xs.drop (i+1)++Tj z (xs.take i)).map I))=h2 at U A B Y⊢;have g3:h2.get b3=some (.cells [I z] 3):=Au.at U hb0 F X;have C:Rf (Ag TT disp K e false) (Ag TT disp K e true) (.func 265 [] [.ptr b3 0]) [.int .i64 xs[i]] h2=some (.bool (decide (¬xs[i]=z)),h2):=by
    show Ag TT disp K e false 265 [.int .i64 xs[i],.ptr b3 0] h2=_;rw[Aq1 H he];simp only[Ak4,Cz g3 rfl,Aa,I,Ac]
   rw[C,Ap];by_cases W:xs[i]=z
   ·rw[aQ W,cS]at E
    simp only[W,aC,aA,Aa,Ac,Oo];rw[Cg (n:=(i:Int)-(Tj z (xs.take i)).length+1) (by omega) (by omega),Cg (n:=(i:Int)+1) (by omega) (by omega)];have:=ih (i+1) h2 (by omega) (by omega) (by rw[E];exact B) U A;rw[E]at this;have e3:(i:Int)-(Tj z (xs.take i)).length+1=((i+1:Nat):Int)-(Tj z (xs.take i)).length:=by omega
    rw[e3];exact this
   ·rw[aM W]at E
    simp only[W,aF,aB,Aa,Ac,Adf];have aa:h2.get q=some (.cells [.chan c] 266):=Au.at U hb0 y G;rw[show EV.int .i64 xs[i]=I xs[i]from rfl,A6a aa B xs[i] (by rw[aG,aU];omega),Ap];simp only[Oo,Ac];rw[Cg (n:=(i:Int)+1) (by omega) (by omega)];have:=ih (i+1) (h2.put c (.chan cap ((xs.drop (i+1)++Tj z (xs.take i)++[xs[i]]).map I))) (by omega) (by omega) (by rw[E,<-b9];exact Ae _ _ _) (U.Ao (.inl rfl) (by omega) _) (A.put (by omega) _);rw[E,aG]at this;have e3:(i:Int)-(Tj z (xs.take i)).length=((i+1:Nat):Int)-((Tj z (xs.take i)).length+[xs[i]].length:Nat):=by simp;omega
    rw[e3];exact this
  ·have:i=xs.length:=by omega
   subst this;rw[List.drop_length,dN,cL]at hc;rw[cL];simp only[J,aA,Aa,Ue];exact .ret ⟨rfl,hc,x,hb⟩
theorem Bpw{p:Nat}{q c:Nat->Nat}{g:Gm}(P:E0 h p ql n q c g ps)(hb:HB h)(Z:Ti n g ps)(hd:4<=d)(z:Int)(hz : -9223372036854775808<=z/\z<=9223372036854775807):
 Ok (Ag TT disp K d false 239 [.ptr p 0,I z] h) fun v h'=>(∃e,v=I e)/\Au (Aw8 n c) h h'/\HB h'/\E0 h' p ql n q c g (if Eu g z<0 then ps else upd ps (Eu g z).toNat (Tj z (ps (Eu g z).toNat)))/\Ti n g (if Eu g z<0 then ps else upd ps (Eu g z).toNat (Tj z (ps (Eu g z).toNat))):=by
 obtain⟨e,rfl⟩:∃k,d=k+2:=⟨d-2,by omega⟩;obtain⟨b1,b2,b3⟩:=Z.bd;rw[Atp H (by omega)];simp only[Aoq,I,Aa];obtain⟨h1,e_,U,W,n1⟩:=nW h (.cells [.int .i64 z] 3);rw[e_];have B:=U.hb hb;have X:=P.ext fun i o g=>U.at hb g
 have lp:=B _ _ X.Gd;have l3:=B _ _ W;simp only[Aa,Ar,Ce lp,Ce l3,X.Bc0,Cz W rfl];refine Ok.bE (Jh Z.sm z hz _) (fun _ _ p=>p.2) ?_;rintro _ _ h2 ⟨rfl,_⟩ _ O;have C:=O.hb B;have A:=X.ext fun i o g=>O.at B g
 have F:=U.trans O;simp only[I,Ac];rcases Aew Z.sm z with Y|⟨d0,d1,d2,d3,d4⟩
 ·rw[Y]
  simp only[show(-1:Int)<0 by decide,aB,Aa,Ac,bI,Ri];exact .ret ⟨⟨15,rfl⟩,Ext.to F,C,A,Z⟩
 ·have G:¬Eu g z<0:=by omega
  simp only[G,aA,Aa,Ac,aY,A.list];generalize ao:Eu g z=dm at d0 d1 G;obtain⟨dn,rfl⟩:=aZ d0;have f:dn<n:=by omega
  rw[A.rowAt.ix f];simp only[A.Bbf f,bG];rw[Aqd H (by omega)];simp only[Ako,dr];rw[A.len f,Ap];have J:=A.chan _ f;have:=Bi0 (K:=K) H hK (e:=e) (by omega) (z:=z) (xs:=ps dn) (A.que _ f) ⟨_,J⟩ (O.at B W) (Z.cap _ f) (by omega) C K 0 h2 (by have:=Z.cap _ f;omega) (by omega) (by rw[dE,List.take_zero,show Tj z [] = []from rfl,cS];exact J) (Au.refl _) C;refine Ok.Am (P:=fun v h'=>v=I (((ps dn).length:Int)-(Tj z (ps dn)).length)/\h'.get (c dn)=some (.chan g.Z.toNat ((Tj z (ps dn)).map I))/\Au (fun j=>j=c dn) h2 h'/\HB h') this ?_;rintro _ h3 ⟨rfl,ab,x3,L⟩;simp only[Ac,I];have ch:Au (Aw8 n c) h h3:=(Ext.to F).trans (x3.mono fun i hi=>⟨dn,f,hi⟩);have P3:E0 h3 p ql n q c g (upd ps dn (Tj z (ps dn))):=by
   have ne:∀b o,h2.get b=some o->A77 o->h3.get b=some o:=fun b o gb ho=>Au.at x3 C gb fun e=>A.Bpi gb ho ⟨dn,f,e⟩
   refine⟨A.pos,ne _ _ A.Gd trivial,ne _ _ A.row trivial,fun e he=>ne _ _ (A.que e he) trivial,fun e he=>?_,A.inj⟩;unfold upd;by_cases E:e=dn
   ·subst E;rw[aQ rfl];exact ab
   ·rw[aM E];exact Au.at x3 C (A.chan e he) fun y=>E (A.inj _ _ he f y)
  have Z3:Ti n g (upd ps dn (Tj z (ps dn))):=Z.upd (bQ (Bf0 _ _) (Z.cap _ f));by_cases h0:((ps dn).length:Int)-(Tj z (ps dn)).length=0
  ·simp only[h0,aB,Ri,Aa]
   exact .ret ⟨⟨15,rfl⟩,ch,L,P3,Z3⟩
  ·simp only[h0,aA,Ri,Aa,Aiv]
   exact .ret ⟨⟨0,rfl⟩,ch,L,P3,Z3⟩
end
theorem Axp(ps:Nat->List Int)(b:Int):∀n,(Fe ps b n = -1/\∀d:Nat,d<n->(d:Int)=b)\/(0<=Fe ps b n/\Fe ps b n<n/\¬Fe ps b n=b/\∀d:Nat,d<n->(d:Int)=b\/(ps d).length<=(ps (Fe ps b n).toNat).length)
 | 0=>.inl ⟨rfl,fun d hd=>absurd hd (cn _)⟩
 | n+1=>by
  have A:=Axp ps b n;rw[Aty];unfold Bbe;rcases A with⟨f,j⟩|⟨f,j,a3,a4⟩
  ·by_cases hb:(n:Int)=b
   ·rw[aM (fun x=>x.1 hb)]
    exact .inl ⟨f,fun d hd=>by rcases dh.1 hd with h|h;exact j d h;subst h;exact hb⟩
   ·rw[aQ ⟨hb,.inl (by omega)⟩]
    refine .inr ⟨by omega,by omega,hb,fun d hd=>?_⟩;rcases dh.1 hd with h|h
    ·exact .inl (j d h)
    ·subst h;exact .inr (by simp)
  ·by_cases hc:¬(n:Int)=b/\(Fe ps b n<0\/(ps (Fe ps b n).toNat).length<(ps n).length)
   ·rw[aQ hc]
    refine .inr ⟨by omega,by omega,hc.1,fun d hd=>?_⟩;rcases dh.1 hd with h|h
    ·rcases a4 d h with y|y
     ·exact .inl y
     ·refine .inr ?_
      rcases hc.2 with z|z
      ·omega
      ·simp only[bG];omega
    ·subst h;exact .inr (by simp)
   ·rw[aM hc]
    refine .inr ⟨f,by omega,a3,fun d hd=>?_⟩;rcases dh.1 hd with h|h
    ·exact a4 d h
    ·subst h
     by_cases hb:(d:Int)=b
     ·exact .inl hb
     ·exact .inr (by have:¬(ps (Fe ps b d).toNat).length<(ps d).length:=fun y=>hc ⟨hb,.inr y⟩;omega)
theorem Bf8{a:Nat}:∀n,(∀d,d<n->d=a\/ps d = [])->Ao4 ps n<=(ps a).length
 | 0,_=>by unfold Ao4;simp
 | n+1,h=>by
  rw[Akv];rcases h n (aR _)with e|e
  ·subst e
   have:Ao4 ps n=0:=by
    have:∀k,k<=n->Ao4 ps k=0:=by
     intro k j;induction k with
     | zero=>rfl
     | succ k f=>
      rw[Akv,f (by omega)];rcases h k (by omega)with e|e
      ·omega
      ·rw[e];rfl
    exact this n (aD _)
   omega
  ·rw[e];have:=Bf8 (a:=a) n fun d hd=>h d (Nat.lt_succ_of_lt hd);simp;omega
theorem A5e(h:Aad ps n≠0)(U:0<=Aad ps n):∃a b:Nat,Fe ps (-1) n=a/\Fe ps a n=b/\a<n/\b<n/\a≠b/\ps a≠[]/\ps b≠[]:=by
 have f:0<Aad ps n:=by omega
 unfold Aad at f;rw[Int.lt_min]at f;obtain⟨p1,J⟩:=f;rcases Axp ps (-1) n with⟨L,C⟩|⟨L,C,_,a4⟩
 ·have:n=0:=by
   cases n with
   | zero=>rfl
   | succ n=>have:=C 0 (by omega);omega
  subst this;unfold Ao4 at p1;simp at p1
 ·obtain⟨a,O⟩:=aZ L
  rw[O]at C a4 J;have E:a<n:=by omega
  have e1:Awx ps n a=(ps a).length:=by unfold Awx;rw[aQ (by omega)];rfl
  rw[e1]at J;have hex:∃d,d<n/\d≠a/\ps d≠[]:=by
   apply Classical.byContradiction;intro F;have:=Bf8 (ps:=ps) (a:=a) n fun d hd=>by
    by_cases A:d=a
    ·exact .inl A
    ·refine .inr (Classical.byContradiction fun j=>F ⟨d,hd,A,j⟩)
   omega
  obtain⟨d,hd,A,j⟩:=hex;have G:ps a≠[]:=fun e=>by
   rcases a4 d hd with y|y
   ·omega
   ·rw[bG,e]at y;exact j (bX.1 (by simpa using y))
  rcases Axp ps a n with⟨b1,b2⟩|⟨b1,b2,b3,b4⟩
  ·have:=b2 d hd;omega
  ·obtain⟨b,B⟩:=aZ b1
   rw[B]at b2 b3 b4;refine⟨a,b,O,B,E,by omega,by omega,G,fun e=>?_⟩;rcases b4 d hd with y|y
   ·omega
   ·rw[bG,e]at y;exact j (bX.1 (by simpa using y))
theorem Ase:0<=Aad ps n:=by
 unfold Aad;have:Awx ps n (Fe ps (-1) n)<=Ao4 ps n:=by
  unfold Awx;split
  ·rename_i h
   have:∀m d,d<m->(ps d).length<=Ao4 ps m:=by
    intro m;induction m with
    | zero=>intro d hd;omega
    | succ m f=>
     intro d hd;rw[Akv];rcases dh.1 hd with h|h
     ·have:=f d h;omega
     ·subst h;omega
   exact this n _ (by omega)
  ·omega
 omega
section
variable{p:Nat}{q c:Nat->Nat}{g:Gm}(P:E0 h p ql n q c g ps)(hb:HB h)(Z:Ti n g ps)(hK:5000<K)
include P hb Z hK
theorem Bpb:Ok (Y0 K (.ptr p 0) h) fun v h'=>Au (Aw8 n c) h h'/\HB h'/\((Aad ps n=0/\v=.tuple [I 0,I 0,I 15]/\E0 h' p ql n q c g ps) \/
 ∃(a b:Nat) (x y:Int) (r s:List Int),¬Aad ps n=0/\Fe ps (-1) n=a/\Fe ps a n=b/\a<n/\b<n/\a≠b/\ps a=x::r/\ps b=y::s/\v=.tuple [I x,I y,I 0]/\E0 h' p ql n q c g (upd (upd ps a r) b s)/\Ti n g (upd (upd ps a r) b s)):=by
 obtain⟨b1,b2,b3⟩:=Z.bd;simp only[Y0,dr];refine(Bar P hb Z.small (by omega)).Am ?_;rintro _ h1 ⟨rfl,E⟩;have f:=E.hb hb;have F:=P.ext fun i o g=>E.at hb g
 simp only[I,Ac];by_cases G:Aad ps n=0
 ·simp only[G,aB,Aa]
  exact .ret ⟨Ext.to E,f,.inl ⟨trivial,rfl,F⟩⟩
 ·simp only[G,aA,Aa,Ahw]
  obtain⟨a,b,ha,B,J,L,C,O,hb0⟩:=A5e G Ase;refine(Auj F f (by omega) (by omega) (-1)).Am ?_;rintro _ h2 ⟨rfl,U⟩;have j:=U.hb f;have P2:=F.ext fun i o g=>U.at f g
  rw[ha];refine(Auj P2 j (by omega) (by omega) a).Am ?_;rintro _ h3 ⟨rfl,W⟩;have X:=W.hb j;have P3:=P2.ext fun i o g=>W.at j g
  rw[B];refine(A79 P3 X Z hK a).Am ?_;rintro _ h4 ⟨c4,Y,x,e,A,rfl,P4,Z4,hh⟩;have hx:e=0/\∃r,ps a=x::r/\A=upd ps a r:=by
   rcases hh with⟨y,_⟩|⟨_,_,y,_⟩|⟨_,_,y,z⟩
   ·omega
   ·rw[bG]at y;exact absurd y O
   ·rw[bG]at z;exact⟨y,z⟩
  obtain⟨rfl,r,ab,rfl⟩:=hx;simp only[Aa];refine(A79 P4 Y Z4 hK b).Am ?_;rintro _ h5 ⟨c5,ad,y,e,A,rfl,P5,Z5,hh⟩;have eb:upd ps a r b=ps b:=by unfold upd;rw[aM (cT C)]
  have hy:e=0/\∃s,ps b=y::s/\A=upd (upd ps a r) b s:=by
   rcases hh with⟨w,_⟩|⟨_,_,w,_⟩|⟨_,_,w,z⟩
   ·omega
   ·rw[bG,eb]at w;exact absurd w hb0
   ·rw[bG,eb]at z;exact⟨w,z⟩
  obtain⟨rfl,s,ae,rfl⟩:=hy;simp only[Aa,I,Ac,aC,aA,Aip];refine .ret ⟨(Ext.to (E.trans (U.trans W))).trans (c4.trans c5),ad,.inr ⟨a,b,x,y,r,s,not_false,rfl,B,J,L,C,ab,ae,rfl,P5,Z5⟩⟩
end
end
def Lm(st:Nat):Int:=if st=4 then 32 else if st=3 then 30 else 0
theorem Ajr{z q:Nat}{size:Int}{Z:Zn}(f:E2 h z q size Z):Eb K (.ptr z 0) h=some (I Z.st,h):=by
 obtain⟨s,g,_⟩:=f.An;simp only[Eb,Aa,Cz g rfl]
theorem Bac{z q:Nat}{size:Int}{Z:Zn}(f:E2 h z q size Z):H2 K (.ptr z 0) h=some (I Z.l.length,h):=by
 obtain⟨s,g,r⟩:=f.An;simp only[H2,Aa,Cz g rfl,r.Hc]
theorem Yi{z q:Nat}{size:Int}{Z:Zn}(j:E2 h z q size Z):D1 K (.ptr z 0) h=some (I (Lm Z.st),h):=by
 obtain⟨s,g,_⟩:=j.An;simp only[D1,Aa,Cz g rfl,I,Ac];unfold Lm;by_cases h4:Z.st=4
 ·have:decide ((Z.st:Int)=4)=true:=by simp[h4]
  rw[this,aQ h4];simp only[Aa]
 ·have a:decide ((Z.st:Int)=4)=false:=by simp;omega
  rw[a,aM h4];simp only[Aa,Ac];by_cases f:Z.st=3
  ·have:decide ((Z.st:Int)=3)=true:=by simp[f]
   rw[this,aQ f];simp only[Aa]
  ·have b:decide ((Z.st:Int)=3)=false:=by simp;omega
   rw[b,aM f];simp only[Aa,Ac,Nb]
theorem E2.ext{z q:Nat}{size:Int}{Z:Zn}(d:E2 h z q size Z)(g:∀i o,h.get i=some o->h'.get i=some o):E2 h' z q size Z:=by
 obtain⟨s,a,b⟩:=d.An;exact⟨⟨s,g _ _ a,b.frame fun f=>by rw[g _ _ (b.block f),b.block f]⟩,d.wf⟩
def Zn.app(Z:Zn)(size:Nat)(x:List EV):Zn:=⟨Z.l++[x],Z.safe,if Z.l.length+1=size then 2 else 1,Z.fin⟩
theorem A0v{z q size:Nat}{Z:Zn}(zz:E2 h z q size Z)(hb:HB h)(a2:Z.st<2)(O:Z.l.length<=64){x:List EV}(W:x.length=64):
 Ok (D3 K (.ptr z 0) (.agg x) h) fun v h'=>v=.tuple [I Z.l.length,I 0]/\(∃q',E2 h' z q' size (Z.app size x)/\h.next<=q')/\Au (fun i=>i=z\/(0<Z.l.length/\i=q)) h h'/\HB h':=by
 obtain⟨s,g,r⟩:=zz.An;simp only[D3,Aa];obtain⟨X,e_,Y,g3,n1⟩:=nW h (.cells x 30);rw[e_];have j:=Y.hb hb;have z1:E2 X z q size Z:=zz.ext fun i o g=>Y.at hb g
 have g1:=Y.at hb g;have r1:Cc X s q 30 64 Z.l.length Z.l.flatten:=r.frame fun O=>by rw[Y.at hb (r.block O),r.block O]
 rw[Yi z1,Ap];have hf:Lm Z.st=0:=by unfold Lm;rw[aM (by omega),aM (by omega)]
 rw[hf];have h2:¬(Z.st:Int)=2:=by omega
 simp only[Ac,I,aC,aA,Aa,Hm,Cz g1 rfl,h2,Mt];have lz:=j _ _ g1;have l3:=j _ _ g3;simp only[Aa,Ar,Ce lz,Ce l3,Cz g1 rfl,Cy g3 rfl,Ak W];rw[Sl (z:=List.replicate 64 (.int .u8 0)) rfl (by simp) (by exact W) (by omega),Ap];obtain⟨f,e_,x2,gx,n2⟩:=nW X (.cells (EV.cells (.agg x)) 30);rw[e_];have C:=x2.hb j;have g2:=x2.at j g1;have r2:Cc f.lift s q 30 64 Z.l.length Z.l.flatten:=(r1.frame (h':=f) fun O=>by rw[x2.at j (r1.block O),r1.block O]).frame fun _=>Br _ _
 obtain⟨h3,e3,r3,n3,c3⟩:=Aac (x:=.slice X.next 0 1 1 false) (n:=1) r2 rfl (by omega) (by omega) (by omega) (X2 (b:=X.next) (by rw[Br];exact gx) W) (by rw[W]);refine Ok.bC (S:=fun i=>0<Z.l.length/\i=q) (P:=fun v h'=>v=.slice f.lift.next 0 (Z.l.length+1) (Z.l.length+1) true/\h'=h3) ⟨_,_,e3,rfl,rfl⟩ (fun _ _ p=>by rw[p.2];exact c3) ?_;rintro _ _ h4 s' ⟨rfl,rfl⟩ sm x4 al;have ab:=x4.hb C;rw[Alk]at r3 n3;rw[Alk];have ao:¬(0<Z.l.length/\z=q):=fun y=>by
  have:=r1.block y.1;exact Ba g1 this (by simp) y.2
 have g4:h4.get z=some (.cells [s,I size,I Z.safe,I Z.st,.bool Z.fin] 277):=Au.at x4 C g2 ao;have r4:Cc h4 (.slice f.next 0 (Z.l.length+1) (Z.l.length+1) true) f.next 30 64 (Z.l.length+1) (Z.l.flatten++x):=r3.frame fun _=>sm.get _
 have A:z<h4.next:=ab _ _ g4
 try simp only[Aa]
 rw[Gh (by rcases al with rfl|⟨w,rfl,_⟩<;>kernel_rfl)];refine Ok.st1 g4 rfl rfl (by show 0<5;decide) ?_;refine Ok.st1 (Ae _ _ _) rfl rfl (by show 3<5;decide) ?_;simp only[List.set,Aa];have E:f.next≠z:=by have:=C _ _ g2;omega
 have F:z<((h4.put z (.cells [EV.slice f.next 0 (Z.l.length+1) (Z.l.length+1) true,I size,I Z.safe,I Z.st,.bool Z.fin] 277)).put z (.cells [EV.slice f.next 0 (Z.l.length+1) (Z.l.length+1) true,I size,I Z.safe,.int .i64 1,.bool Z.fin] 277)).next:=A
 have hq:h.next<=f.next:=by omega
 have r5:∀o1 B,Cc ((h4.put z o1).put z B) (.slice f.next 0 (Z.l.length+1) (Z.l.length+1) true) f.next 30 64 (Z.l.length+1) (Z.l.flatten++x):=fun o1 B=>r4.frame fun _=>by rw[Af _ (cT E),Af _ (cT E)]
 have ch:∀o1 B,Au (fun i=>i=z\/(0<Z.l.length/\i=q)) h ((h4.put z o1).put z B):=fun o1 B=>((((Ext.to (Y.trans x2)).trans (x4.mono fun i hi=>.inr hi)).Ao (.inl (.inl rfl)) A _).Ao (.inl (.inl rfl)) A _)
 have aq:∀o1 B,HB ((h4.put z o1).put z B):=fun o1 B=>(ab.put A _).put A _
 have gz:((h4.put z (.cells [EV.slice f.next 0 (Z.l.length+1) (Z.l.length+1) true,I size,I Z.safe,I Z.st,.bool Z.fin] 277)).put z (.cells [EV.slice f.next 0 (Z.l.length+1) (Z.l.length+1) true,I size,I Z.safe,.int .i64 1,.bool Z.fin] 277)).get z=some (.cells [EV.slice f.next 0 (Z.l.length+1) (Z.l.length+1) true,I size,I Z.safe,.int .i64 1,.bool Z.fin] 277):=Ae _ _ _;have G:=r5 (.cells [EV.slice f.next 0 (Z.l.length+1) (Z.l.length+1) true,I size,I Z.safe,I Z.st,.bool Z.fin] 277) (.cells [EV.slice f.next 0 (Z.l.length+1) (Z.l.length+1) true,I size,I Z.safe,.int .i64 1,.bool Z.fin] 277);have J:=ch (.cells [EV.slice f.next 0 (Z.l.length+1) (Z.l.length+1) true,I size,I Z.safe,I Z.st,.bool Z.fin] 277) (.cells [EV.slice f.next 0 (Z.l.length+1) (Z.l.length+1) true,I size,I Z.safe,.int .i64 1,.bool Z.fin] 277);have L:=aq (.cells [EV.slice f.next 0 (Z.l.length+1) (Z.l.length+1) true,I size,I Z.safe,I Z.st,.bool Z.fin] 277) (.cells [EV.slice f.next 0 (Z.l.length+1) (Z.l.length+1) true,I size,I Z.safe,.int .i64 1,.bool Z.fin] 277);generalize (h4.put z (.cells [EV.slice f.next 0 (Z.l.length+1) (Z.l.length+1) true,I size,I Z.safe,I Z.st,.bool Z.fin] 277)).put z (.cells [EV.slice f.next 0 (Z.l.length+1) (Z.l.length+1) true,I size,I Z.safe,.int .i64 1,.bool Z.fin] 277)=h5 at gz G J L F⊢;simp only[Cz gz rfl,Aa,I,Ac];have fin:∀(st:Nat) (U:Ab),st=(Z.app size x).st->U.get z=some (.cells [EV.slice f.next 0 (Z.l.length+1) (Z.l.length+1) true,I size,I Z.safe,I st,.bool Z.fin] 277)->Cc U (.slice f.next 0 (Z.l.length+1) (Z.l.length+1) true) f.next 30 64 (Z.l.length+1) (Z.l.flatten++x)->Au (fun i=>i=z\/(0<Z.l.length/\i=q)) h U->HB U ->
  Ok (Hv K (.ptr z 0) U) fun v h'=>v=.tuple [I Z.l.length,I 0]/\(∃q',E2 h' z q' size (Z.app size x)/\h.next<=q')/\Au (fun i=>i=z\/(0<Z.l.length/\i=q)) h h'/\HB h':=by
  rintro st U rfl g6 r6 c6 au;simp only[Hv,Aa,Cz g6 rfl,I,Ac];rw[Cg,show((Z.l.length+1:Nat):Int)-1=(Z.l.length:Int) by omega];refine .ret ⟨rfl,⟨f.next,⟨⟨_,g6,?_⟩,fun y hy=>by
   rcases bP.1 hy with hy|hy
   ·exact zz.wf y hy
   ·rw[aP.1 hy];exact W⟩,hq⟩,c6,au⟩
  have e1:(Z.app size x).l.length=Z.l.length+1:=by simp[Zn.app]
  have e2:(Z.app size x).l.flatten=Z.l.flatten++x:=by simp[Zn.app]
  rw[e1,e2];exact r6
 by_cases hs:Z.l.length+1=size
 ·have:((Z.l.length+1:Nat):Int)=(size:Int):=by omega
  simp only[this,aB,Aa];refine Ok.st1 gz rfl rfl (by show 3<5;decide) ?_;refine fin 2 _ (by simp[Zn.app,hs]) (Ae _ _ _) (G.frame fun _=>Af _ (cT E)) (J.Ao (.inl (.inl rfl)) F _) (L.put F _)
 ·have:¬((Z.l.length+1:Nat):Int)=(size:Int):=by omega
  simp only[this,aA,Aa];exact fin 1 _ (by simp[Zn.app,hs]) gz G J L
theorem A1h{z q:Nat}{size:Int}{Z:Zn}(A:E2 h z q size Z)(hb:HB h)(B:2<=Z.st)(h4:Z.st<=4)(x:List EV):
 Ok (D3 K (.ptr z 0) (.agg x) h) fun v h'=>v=.tuple [I 0,I (if Z.st=2 then 17 else Lm Z.st)]/\Ext h h':=by
 simp only[D3,Aa];obtain⟨C,E,f,_,_⟩:=nW h (.cells x 30);rw[E];have z1:E2 C z q size Z:=A.ext fun i o g=>f.at hb g
 rw[Yi z1,Ap];obtain⟨s,g,_⟩:=z1.An;by_cases h2:Z.st=2
 ·have j:Lm Z.st=0:=by unfold Lm;rw[aM (by omega),aM (by omega)]
  have y:(Z.st:Int)=2:=by omega
  rw[j];simp only[Ac,I,aC,aA,Aa,Hm,Cz g rfl,y,aB,h2,bI];exact .ret ⟨rfl,f⟩
 ·have j:¬Lm Z.st=0:=by
   unfold Lm;split
   ·decide
   ·split
    ·decide
    ·omega
  simp only[Ac,I,j,aF,aB,Aa,h2,aY];exact .ret ⟨rfl,f⟩
theorem Ea{l:List EV}(f:h.get i=some (.cells l t))(hs:TT.size t=some n)(j:TT.agg t=some true)(y:l.length=n):Ii TT [.c (.ptr i 0) t,.v v] h=some (.tuple [.agg l,v],h):=by
 have A:Iw h i 0 n=some l:=by
  unfold Iw;rw[f];simp only;rw[<-Ai7];exact Ak y
 unfold Ii;simp only[Azi,hs,A,j]
theorem Azn:TT.size 30=some 64/\TT.agg 30=some true:=⟨by kernel_rfl,by kernel_rfl⟩
def Va:List EV:=List.replicate 64 (.int .u8 0)
theorem Kw:Va.length=64:=by simp[Va]
theorem Bos:∀(l:List (List EV)) (j:Nat),(∀x∈l,x.length=64)->j<l.length->∃x,l[j]? = some x/\x.length=64/\Mj l.flatten (j*64) 64=some x:=by
 intro l;induction l with
 | nil=>intro j _ hj;cases hj
 | cons y l B=>
  intro j hw hj;have F:=hw y (aV ..);cases j with
  | zero=>
   refine⟨y,rfl,F,?_⟩;rw[br,E6 (by simp[F]),fQ,dE,dK (by omega),bR (by omega)]
  | succ j=>
   obtain⟨x,e1,e2,e3⟩:=B j (fun x f=>hw x (aT _ f)) (by simpa using hj);refine⟨x,by simpa using e1,e2,?_⟩;have G:j*64+64<=l.flatten.length:=by
    rcases dL l.flatten.length (j*64+64)with C|E
    ·rw[Ai7]at e3
     exfalso;have:(l.flatten.drop (j*64)).length<64:=by rw[aU];omega
     revert e3;have hlen:l.flatten.length=l.length*64:=by
      clear B hj e1 C this;have A:∀x∈l,x.length=64:=fun x f=>hw x (aT _ f)
      clear hw;induction l with
      | nil=>rfl
      | cons a l B=>rw[br,aG,B fun x f=>A x (aT _ f),A a (aV ..),bK];omega
     have:j+1<=l.length:=by simp at hj;omega
     omega
    ·exact E
   rw[E6 G]at e3;rw[br,E6 (by rw[aG];omega),show(j+1)*64=y.length+j*64 by omega,List.drop_append,<-e3,ct (by omega),dN];simp
def Afm(Z:Zn)(off:Int):List EV × Int:=if Z.st=4 then(Va,32)else if 0<=off/\off<Z.l.length then((Z.l[off.toNat]?).getD Va,0)else(Va,31)
theorem Bjd {Z:Zn}(wf:∀x∈Z.l,x.length=64)(off:Int):(Afm Z off).1.length=64:=by
 unfold Afm;split
 ·exact Kw
 ·split
  ·rename_i hc
   have:off.toNat<Z.l.length:=by omega
   rw[aH this];exact wf _ (av _)
  ·exact Kw
theorem A8e{z q:Nat}{size:Int}{Z:Zn}(G:E2 h z q size Z)(hb:HB h)(off:Int):
 Ok (Hb K (.ptr z 0) (I off) h) fun v h'=>v=.tuple [.agg (Afm Z off).1,I (Afm Z off).2]/\Ext h h':=by
 simp only[Hb,Aa];have y:Ext h ((h.new (.cells (List.replicate 64 (.int .u8 0)) 30)).new (.cells (List.replicate 64 (.int .u8 0)) 30)):=(Au.new _ _).C8 _;have A:((h.new (.cells (List.replicate 64 (.int .u8 0)) 30)).new (.cells (List.replicate 64 (.int .u8 0)) 30)).get h.next=some (.cells Va 30):=by
  rw[Ay _ (aR _)];exact Ad _ _
 have f:((h.new (.cells (List.replicate 64 (.int .u8 0)) 30)).new (.cells (List.replicate 64 (.int .u8 0)) 30)).get (h.new (.cells (List.replicate 64 (.int .u8 0)) 30)).next=some (.cells Va 30):=Ad _ _
 generalize L:(h.new (.cells (List.replicate 64 (.int .u8 0)) 30)).next=U at f⊢
 generalize (h.new (.cells (List.replicate 64 (.int .u8 0)) 30)).new (.cells (List.replicate 64 (.int .u8 0)) 30)=B at y A f⊢;have C:=y.hb hb;have z1:E2 B z q size Z:=G.ext fun i o g=>y.at hb g
 obtain⟨s,g,r⟩:=z1.An;have O:=C _ _ A;have fin:∀(l:List EV) (e:Int),l.length=64->(l,e)=Afm Z off->Ok (stE 64 (.ptr h.next 0) (.agg l) B fun h=>Ii TT [.c (.ptr h.next 0) 30,.v (I e)] h) (fun v h'=>True)->True:=fun _ _ _ _ _=>trivial
 clear fin;have fin:∀(l:List EV) (e:Int) (kk:Ab->R),(∀h',kk h'=Ii TT [.c (.ptr h.next 0) 30,.v (I e)] h')->l.length=64->(l,e)=Afm Z off->Ok (stE 64 (.ptr h.next 0) (.agg l) B kk) fun v h'=>v=.tuple [.agg (Afm Z off).1,I (Afm Z off).2]/\Ext h h':=by
  intro l e kk E F he;refine Ok.st l A rfl (by rw[show EV.cells (.agg l)=l from rfl,Bf,F]) (Bm (by rw[Kw];exact F.symm)) ?_;rw[E,Ea (Ae _ _ _) Azn.1 Azn.2 F,<-he];exact .ret ⟨rfl,y.Ao (.inr (aD _)) O _⟩
 simp only[Cz g rfl,Aa,I,Ac,Cy f rfl,Ak Kw];by_cases h4:Z.st=4
 ·rw[show decide ((Z.st:Int)=4)=true by simp[h4]]
  simp only[Aa];exact fin Va 32 _ (fun _=>rfl) Kw (by unfold Afm;rw[aQ h4])
 ·rw[show decide ((Z.st:Int)=4)=false by simp;omega]
  simp only[Aa];by_cases h0:off<0
  ·simp only[h0,aB,Aa,I8,Cy f rfl,Ak Kw]
   exact fin Va 31 _ (fun _=>rfl) Kw (by unfold Afm;rw[aM h4,aM (by omega)])
  ·simp only[h0,aA,Aa,r.Hc,Ac,I8]
   by_cases J:(Z.l.length:Int)<=off
   ·simp only[J,aB,Aa,Cy f rfl,Ak Kw]
    exact fin Va 31 _ (fun _=>rfl) Kw (by unfold Afm;rw[aM h4,aM (by omega)])
   ·simp only[J,aA,Aa,O9,Cz g rfl]
    have hj:off.toNat<Z.l.length:=by omega
    obtain⟨j,rfl⟩:∃j:Nat,off=j:=⟨off.toNat,by omega⟩;rw[show(j:Int).toNat=j from rfl]at hj;obtain⟨x,f1,f2,f3⟩:=Bos Z.l j G.wf hj;rw[r.ix hj];simp only[Cy (r.block (by omega)) rfl,f3,Aa];refine fin x 0 _ (fun _=>rfl) f2 ?_;unfold Afm;rw[aM h4,aQ (by omega),show(j:Int).toNat=j from rfl,f1];rfl
theorem E2.put{z q:Nat}{size:Int}{Z:Zn}(f:E2 h z q size Z){s:EV}(g:h.get z=some (.cells [s,I size,I Z.safe,I Z.st,.bool Z.fin] 277))(safe st:Nat)(fin:Bool):
 E2 (h.put z (.cells [s,I size,I safe,I st,.bool fin] 277)) z q size ⟨Z.l,safe,st,fin⟩:=by
 obtain⟨s',j,r⟩:=f.An;rw[g]at j;have:s=s':=by
  have:=fU j;injection this with a _;exact(List.cons.inj a).1
 subst this;refine⟨⟨s,Ae _ _ _,r.frame fun y=>Af _ ?_⟩,f.wf⟩;exact Ba g (r.block y) (by simp)
def Zn.flush(Z:Zn):Zn:={ Z with safe:=Z.l.length }
theorem A3c{z q:Nat}{size:Int}{Z:Zn}(f:E2 h z q size Z)(hb:HB h):
 Ok (Gq K (.ptr z 0) h) fun v h'=>E2 h' z q size Z.flush/\Au (fun i=>i=z) h h'/\HB h':=by
 obtain⟨s,g,r⟩:=f.An;have j:=hb _ _ g;simp only[Gq,Aa,Cz g rfl,r.Hc];refine Ok.st1 g rfl rfl (by show 2<5;decide) ?_;refine .ret ⟨?_,(Au.refl (S:=fun i=>i=z) h).Ao (.inl rfl) j _,hb.put j _⟩;exact f.put g Z.l.length Z.st Z.fin
def Zn.finish(Z:Zn):Zn:={ Z with st:=2,fin:=true }
theorem A0t{z q:Nat}{size:Int}{Z:Zn}(f:E2 h z q size Z)(hb:HB h):
 Ok (Gb K (.ptr z 0) h) fun v h'=>v=I (Lm Z.st)/\E2 h' z q size (if Lm Z.st=0 then Z.finish else Z)/\Au (fun i=>i=z) h h'/\HB h':=by
 obtain⟨s,g,r⟩:=f.An;have j:=hb _ _ g;simp only[Gb,Yi f,Aa,I,Ac];by_cases y:Lm Z.st=0
 ·simp only[y,aC,aA,Aa,bI,Nm]
  refine Ok.st1 g rfl rfl (by show 3<5;decide) ?_;refine Ok.st1 (Ae _ _ _) rfl rfl (by show 4<5;decide) ?_;refine .ret ⟨rfl,?_,((Au.refl (S:=fun i=>i=z) h).Ao (.inl rfl) j _).Ao (.inl rfl) j _,(hb.put j _).put j _⟩;exact(f.put g Z.safe 2 Z.fin).put (Ae _ _ _) Z.safe 2 true
 ·simp only[y,aF,aB,Aa,aY]
  exact .ret ⟨rfl,f,Au.refl _,hb⟩
def Zn.fail(Z:Zn)(st:Nat):Zn:=if st=4\/st=3/\¬Z.st=4 then { Z with st:=st }else Z
theorem A6v{z q:Nat}{size:Int}{Z:Zn}(f:E2 h z q size Z)(hb:HB h)(st:Nat):
 Ok (Ha K (.ptr z 0) (I st) h) fun v h'=>E2 h' z q size (Z.fail st)/\Au (fun i=>i=z) h h'/\HB h':=by
 obtain⟨s,g,r⟩:=f.An;have j:=hb _ _ g;have yes:(st=4\/st=3/\¬Z.st=4)->Ok (stE 1 (.ptr z 3) (I st) h fun h=>some (.tuple [],h)) fun v h'=>E2 h' z q size (Z.fail st)/\Au (fun i=>i=z) h h'/\HB h':=by
  intro hc;refine Ok.st1 g rfl rfl (by show 3<5;decide) ?_;refine .ret ⟨?_,(Au.refl (S:=fun i=>i=z) h).Ao (.inl rfl) j _,hb.put j _⟩;unfold Zn.fail;rw[aQ hc];exact f.put g Z.safe st Z.fin
 have no:¬(st=4\/st=3/\¬Z.st=4)->Ok (some (.tuple [],h)) fun v h'=>E2 h' z q size (Z.fail st)/\Au (fun i=>i=z) h h'/\HB h':=by
  intro hc;refine .ret ⟨?_,Au.refl _,hb⟩;unfold Zn.fail;rw[aM hc];exact f
 simp only[Ha,I,Ac,Aa];by_cases a:st=4
 ·rw[show decide ((st:Int)=4)=true by simp[a]]
  simp only[Aa,Ac,Fz,Em,Es];exact yes (.inl a)
 ·rw[show decide ((st:Int)=4)=false by simp;omega]
  simp only[Aa,Ac];by_cases b:st=3
  ·rw[show decide ((st:Int)=3)=true by simp[b]]
   simp only[Aa,Ac,Fz,Cz g rfl,I];by_cases c:Z.st=4
   ·rw[show decide (¬(Z.st:Int)=4)=false by simp[c]]
    simp only[Aa,Ac,Em,Es];exact no (by omega)
   ·rw[show decide (¬(Z.st:Int)=4)=true by simp;omega]
    simp only[Aa,Ac,Em,Es];exact yes (.inr ⟨b,c⟩)
  ·rw[show decide ((st:Int)=3)=false by simp;omega]
   simp only[Aa,Ac,Fz,Em,Es];exact no (by omega)
theorem Xo{b sz:Nat}{x:EV}{new:List EV}(j:lenOf x=some n)(f:n<=65536)(hc:O8 h sz n x=some new)(hs:new.length=n*sz)(q:Nat):
 Ok (Ef e sz (.slice b 0 0 0 false) x h) fun v h'=>∃q',Cc h' v q' e sz n new/\Ext h h'/\(0<n->h.next<=q'):=by
 rcases eh n with rfl|A
 ·have:new = []:=bX.1 (by omega)
  subst this;refine⟨.slice b 0 0 0 false,h,?_,q,.empty _ _ _ _ _,Au.refl _,fun y=>by omega⟩;unfold Ef;simp only[j,Gr];rfl
 ·obtain⟨h',e1,r,C,c⟩:=Aac (s:=.slice b 0 0 0 false) (q:=q) (e:=e) (.empty h b q e sz) j A f (cU _) hc hs
  refine⟨_,h',e1,h.next,?_,c.mono fun i B=>absurd B.1 (bS _),fun _=>aD _⟩;rw[dN]at r;simpa only[bF]using r
end Go.Ev
