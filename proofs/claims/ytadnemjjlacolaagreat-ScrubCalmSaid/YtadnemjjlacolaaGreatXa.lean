import Derived.Test.YtadnemjjlacolaaGreatDa
set_option linter.all false
namespace Go.Ev
open Go.Proofs
set_option maxRecDepth 100000
variable {k:EV->Ab->DX->R}{ex:Nat->Ab->List Nat->R}{h h' h0 h1 h2:Ab}{a op cnt:Int}{K V e i n t b2 b3 b4 d0 l0 q' qc qh ql zl cap:Nat}{o:D3}{T:Ig}{down:Bool}{ps:Nat->List Int}{v J3 cs hs happened:EV}{ms je marks:List (EV × EV)}{x:List EV}{xs:List Int}{tm iT:Ba}{F G:Nat->Prop}{disp:Nat->Option FT}
section
noncomputable def Aw(T:Ig)(g n i:Nat)(tm:Ba)(st:LoopState)(p:Option Code)(d:Nat):D3:=.loop st p g n tm (Fk T g i).2.1 (Fk T g i).2.2.1 (Fk T g i).2.2.2 d
noncomputable def Cg(T:Ig)(g n i:Nat)(tm:Ba)(h:Ab):Ab:=(h.new (.deferred true)).new (Aw T g n i tm .ready none h.next)
section
variable{g l d:Nat}{st:LoopState}{p:Option Code}{Q:EV->Ab->Prop}
theorem Jy:(Cg T g n i tm h).get (h.next+1)=some (Aw T g n i tm .ready none h.next):=Ad _ _
theorem Lm:(Cg T g n i tm h).get h.next=some (.deferred true):=by
 unfold Cg;rw[Ay _ (aO _)];exact Ad _ _
theorem Jn:Ext h (Cg T g n i tm h):=(Av.new _ _).Da _
theorem A0i:(Cg T g n i tm h).next=h.next+2:=rfl
theorem Z8 {f:Ab->R}(j:h.get l=some (Aw T g n i tm .ready p d)):Fi l h f=f (h.put l (Aw T g n i tm .busy p d)):=by
 unfold Fi;rw[j];rfl
theorem Ri {b:Bool}{st':LoopState}{j:Option Code}(f:h.get l=some (Aw T g n i tm st p d)):Xh l b st' j h=some (.bool b,h.put l (Aw T g n i tm st' j d)):=by
 unfold Xh;rw[f];rfl
theorem Ok.range {c:Ah}{q:Nat}{f:List EV}{ds:List Nat}{k:Ab->List Nat->R}{ret:Ab->List Nat->R}
 (hc:Ok (c q (.Vv (h.next+1)::f) (Cg T g n i tm h)) fun _ h'=>
  (h'.get (h.next+1)=some (Aw T g n i tm .ready none h.next)/\Ok (k (h'.put (h.next+1) (Aw T g n i tm .exhausted none h.next)) (h.next::ds)) Q) \/
  (h'.get (h.next+1)=some (Aw T g n i tm .done (some .ret) h.next)/\Ok (ret (h'.put (h.next+1) (Aw T g n i tm .exhausted (some .ret) h.next)) (h.next::ds)) Q)) :
 Ok (X6 c T g n i (.func q [] f) tm h ds k ex ret) Q:=by
 obtain⟨v,h',e,j⟩:=hc;have:X6 c T g n i (.func q [] f) tm h ds k ex ret=nK (h.next+1) (c q (.Vv (h.next+1)::f) (Cg T g n i tm h)) (fun h'=>k h' (h.next::ds)) (fun id h'=>ex id h' (h.next::ds)) (fun h'=>ret h' (h.next::ds)):=rfl;rw[this,e];unfold nK;simp only;rcases j with⟨a,b⟩|⟨a,b⟩
 ·rw[a];exact b
 ·rw[a];exact b
theorem Ok.unwind:∀{ds:List Nat} {h:Ab} {k:Ab->R},ds.Nodup->(∀d∈ds,h.get d=some (.deferred true))->HB h->(∀h',Av (fun i=>i∈ds) h h'->h'.next=h.next->Ok (k h') Q)->Ok (Fz ds h k) Q
 | [],h,k,_,_,_,j=>j h (Av.refl _) rfl
 | d::ds,h,k,hn,hd,hb,j=>by
  obtain⟨A,B⟩:=cK.1 hn;have f:=hd d aW;have ld:=hb _ _ f;have e:Fz (d::ds) h k=Fz ds (h.put d (.deferred false)) k:=by
   show(match h.get d with|some (.deferred true)=>Fz ds (h.put d (.deferred false)) k|_=>none)=_;rw[f]
  rw[e];refine Ok.unwind B (fun x C=>?_) (hb.put ld _) fun h' c n=>j h' ?_ (by rw[n];rfl)
  ·rw[Af _ (fun y=>A (by rw[y];exact C))];exact hd x (aU _ C)
  ·exact((Av.refl h).Ar (S:=fun i=>i∈d::ds) (.inl aW) ld _).trans (c.mono fun i E=>aU _ E)
end
structure Kp(S:Nat->Prop)(h0 h:Ab):Prop where
 chg:Av S h0 h
 same:∀i,i<h0.next->h.get i=h0.get i
theorem Kp.refl {S:Nat->Prop}(h:Ab):Kp S h h:=⟨Av.refl _,fun _ _=>rfl⟩
theorem Ext.kp {S:Nat->Prop}(x:Ext h0 h):Kp S h0 h:=⟨Ext.to x,fun i f=>x.get i f id⟩
theorem Kp.trans {S:Nat->Prop}{a b c:Ab}(x:Kp S a b)(y:Kp S b c):Kp S a c:=⟨x.chg.trans y.chg,fun i f=>by rw[y.same i (aN f x.chg.next),x.same i f]⟩
theorem Kp.Ar {S:Nat->Prop}(x:Kp S h0 h)(f:h0.next<=i)(hn:i<h.next)(o:D3):Kp S h0 (h.put i o):=
 ⟨x.chg.Ar (.inr f) hn o,fun j hj=>by rw[Af _];exact x.same j hj⟩
theorem Kp.at {S:Nat->Prop}(x:Kp S h0 h)(hb:HB h0)(g:h0.get i=some o):h.get i=some o:=by rw[x.same i (hb _ _ g)];exact g
theorem Kp.tQ {S T:Nat->Prop}{a b c:Ab}(x:Kp S a b)(y:Av T b c)(st:∀i,T i->a.next<=i):Kp S a c:=
 ⟨x.chg.then y fun i f A=>by have:=st i f;omega,fun i f=>by rw[y.get i (aN f x.chg.next) fun j=>by have:=st i j;omega,x.same i f]⟩
end
section
structure Gm where
 D:Int
 Z:Int
 S:Int
 B:Int
 P:Int
 O:Int
def gL(g:Gm):List EV:=[I g.D,I g.Z,I g.S,I g.B,I g.P,I g.O]
def gV(g:Gm):EV:=.agg (gL g)
def Gm.parts(g:Gm):Int:=1+(g.B+1)/2
def Gm.E5(g:Gm):Int:=g.D*g.P+4
def Gm.least(g:Gm):Int:=min ((g.D-1)*(g.Z-g.P-2)-g.E5+1) (g.D*(g.Z-g.P-2)-2*g.E5+1)
def Gm.segments(g:Gm):Int:=g.least/2-1-g.D*g.P
def wi(n a b:Int):Bool:=decide (a<=n)&&decide (n<=b)
theorem Ez {n b:Int}:wi n a b=true↔a<=n/\n<=b:=by simp[wi]
def kv(g:Gm):Bool:=wi g.D 3 8&&wi g.Z 1 64&&wi g.S 4 64&&wi g.B 1 256&&wi g.P 0 4&&wi g.O 4 64
def rtB(g:Gm):Bool:=kv g&&(decide (g.parts<=g.S)&&decide (2*g.B<=g.S*g.segments))
structure Sm(g:Gm):Prop where
 d0:3<=g.D
 d1:g.D<=8
 z0:1<=g.Z
 z1:g.Z<=64
 s0:4<=g.S
 s1:g.S<=64
 b0:1<=g.B
 b1:g.B<=256
 p0:0<=g.P
 p1:g.P<=4
 o0:4<=g.O
 o1:g.O<=64
theorem V6 {g:Gm}(h:kv g=true):Sm g:=by
 simp only[kv,aS,Ez]at h;exact⟨h.1.1.1.1.1.1,h.1.1.1.1.1.2,h.1.1.1.1.2.1,h.1.1.1.1.2.2,h.1.1.1.2.1,h.1.1.1.2.2,h.1.1.2.1,h.1.1.2.2,h.1.2.1,h.1.2.2,h.2.1,h.2.2⟩
theorem Ja {g:Gm}(h:rtB g=true):Sm g:=V6 (by unfold rtB at h;exact((aS _ _).mp h).1)
theorem Q6 {b A B:Int}(h0:0<=a:=by omega)(h1:a<=A:=by omega)(h2:0<=b:=by omega)(f:b<=B:=by omega):0<=a*b/\a*b<=A*B:=
 ⟨dX h0 h2,Int.mul_le_mul h1 f h2 (Int.le_trans h0 h1)⟩
theorem vT {b A B:Int}(h0:0<=a:=by omega)(h1:a<=A:=by omega)(h2 : -B<=b:=by omega)(f:b<=B:=by omega)(j:0<=B:=by omega): -(A*B)<=a*b/\a*b<=A*B:=by
 have e1:a*b<=a*B:=bT f h0;have e2:a*B<=A*B:=fK h1 j;have e3:a*(-B)<=a*b:=bT h2 h0;rw[Int.mul_neg]at e3;omega
theorem Buf{k:EV->R}:iK (bin T .shr t) (.int .i64 a) (.int .u64 1) k=k (.int .i64 (a/2)):=by
 cases a with
 | ofNat a=>
  show k (.int .i64 (.ofNat (Nat.shiftRight a 1)))=_;rw[show Nat.shiftRight a 1=a/2 from Nat.shiftRight_succ a 0];rfl
 | negSucc a=>
  show k (.int .i64 ((Int.negSucc a).fdiv (.ofNat 2)))=_;rw[fW _ (by decide)];rfl
theorem Bo4(a b:Int):ko a b=decide (a<b):=by rw[<-xW,rX]
theorem min2{f:Array TypeId}{b:Int}:builtin T .min f [.int .i64 a,.int .i64 b] h=some (.int .i64 (min a b),h):=by
 simp only[builtin,iB,Bm,Bo4];rw[Bqg];by_cases h1:b<a
 ·rw[aI h1,Int.min_eq_right (by omega)]
 ·rw[aG h1,Int.min_eq_left (by omega)]
theorem zG(n a b:Int)(h:Ab):Ln K (I n) (I a) (I b) h=some (.bool (wi n a b),h):=by
 simp only[Ln,FP,I,Ac,Brk];by_cases h1:a<=n
 ·simp only[h1,aC,Ak,dz,FE,wi,bI]
 ·simp only[h1,aA,Bm,dz,FE,wi,av]
theorem A3u(g:Gm)(h:Ab):Vi K (gV g) h=some (.bool (kv g),h.new (.cells (gL g) 23)):=by
 simp only[Vi,gV,Aa];have f:(h.new (.cells (gL g) 23)).get h.next=some (.cells (gL g) 23):=Ad _ _
 generalize h.new (.cells (gL g) 23)=h1 at f⊢;have w:=fun n a b=>zG (K:=K) n a b h1
 simp only[I]at w;simp only[Aa,Cw f rfl,gL,I,w,Ac];unfold kv;cases wi g.D 3 8 with
 | false=>simp only[Aa,Ac,G6,G7,G4,Ha,G3,av]
 | true=>
 simp only[Aa,Cw f rfl,gL,I,w,Ac,G6];cases wi g.Z 1 64 with
 | false=>simp only[Aa,Ac,G6,G7,G4,Ha,G3,av,dI]
 | true=>
 simp only[Aa,Cw f rfl,gL,I,w,Ac,G7];cases wi g.S 4 64 with
 | false=>simp only[Aa,Ac,G6,G7,G4,Ha,G3,av,dI]
 | true=>
 simp only[Aa,Cw f rfl,gL,I,w,Ac,G4];cases wi g.B 1 256 with
 | false=>simp only[Aa,Ac,G6,G7,G4,Ha,G3,av,dI]
 | true=>
 simp only[Aa,Cw f rfl,gL,I,w,Ac,Ha];cases wi g.P 0 4 with
 | false=>simp only[Aa,Ac,G6,G7,G4,Ha,G3,av,dI]
 | true=>
 simp only[Aa,Cw f rfl,gL,I,w,Ac,G3,bI]
theorem tM {g:Gm}(s:Sm g)(h:Ab):Il K (gV g) h=some (I g.parts,h.new (.cells (gL g) 23)):=by
 have:=s.b0;have:=s.b1;simp only[Il,gV,Aa];have f:(h.new (.cells (gL g) 23)).get h.next=some (.cells (gL g) 23):=Ad _ _
 generalize h.new (.cells (gL g) 23)=h1 at f⊢;simp only[Aa,Cw f rfl,gL,I,Ac];rw[Cl (n:=g.B+2),Cl (n:=g.B+2-1),rU (by omega) (by omega) (by omega)];simp only[Ac];rw[Cl];rw[show 1+(g.B+2-1)/2=g.parts by unfold Gm.parts;rw[show g.B+2-1=g.B+1 by omega]]
theorem UE {g:Gm}(s:Sm g)(h:Ab):Nw K (gV g) h=some (I g.E5,h.new (.cells (gL g) 23)):=by
 have:=s.d0;have:=s.d1;have:=s.p0;have:=s.p1;obtain⟨j,m1⟩:=Q6 (a:=g.D) (b:=g.P) (A:=8) (B:=4);simp only[Nw,gV,Aa];have f:(h.new (.cells (gL g) 23)).get h.next=some (.cells (gL g) 23):=Ad _ _
 generalize h.new (.cells (gL g) 23)=h1 at f⊢;simp only[Aa,Cw f rfl,gL,I,Ac];rw[Cl (n:=g.D*g.P),Cl];rfl
theorem Nj {g:Gm}(s:Sm g)(h:Ab):Dn K (gV g) h=some (I (g.D*g.Z),h.new (.cells (gL g) 23)):=by
 have:=s.d0;have:=s.d1;have:=s.z0;have:=s.z1;obtain⟨j,m1⟩:=Q6 (a:=g.D) (b:=g.Z) (A:=8) (B:=64);simp only[Dn,gV,Aa];have f:(h.new (.cells (gL g) 23)).get h.next=some (.cells (gL g) 23):=Ad _ _
 generalize h.new (.cells (gL g) 23)=h1 at f⊢;simp only[Aa,Cw f rfl,gL,I,Ac];rw[Cl (n:=g.D*g.Z)]
theorem Sm.zH {g:Gm}(s:Sm g):(0<=g.D*g.P/\g.D*g.P<=32)/\(-640<=(g.D-1)*(g.Z-g.P-2)/\(g.D-1)*(g.Z-g.P-2)<=640)/\(-640<=g.D*(g.Z-g.P-2)/\g.D*(g.Z-g.P-2)<=640):=by
 have:=s.d0;have:=s.d1;have:=s.p0;have:=s.p1;have:=s.z0;have:=s.z1;obtain⟨f,j⟩:=Q6 (a:=g.D) (b:=g.P) (A:=8) (B:=4);obtain⟨b0,b1⟩:=vT (a:=g.D-1) (b:=g.Z-g.P-2) (A:=10) (B:=64);obtain⟨c0,c1⟩:=vT (a:=g.D) (b:=g.Z-g.P-2) (A:=10) (B:=64);omega
theorem Axv {g:Gm}(s:Sm g)(h:Ab):Ok (Pl K (gV g) h) fun v h'=>v=I g.segments/\Ext h h':=by
 obtain⟨⟨L,O⟩,⟨b0,b1⟩,c0,c1⟩:=s.zH;have:=s.d0;have:=s.d1;have:=s.p0;have:=s.p1;have:=s.z0;have:=s.z1;simp only[Pl,gV,Aa];have j:(h.new (.cells (gL g) 23)).get h.next=some (.cells (gL g) 23):=Ad _ _
 have hn:h.next<(h.new (.cells (gL g) 23)).next:=aO _
 have y:Ext h (h.new (.cells (gL g) 23)):=Av.new _ _;generalize h.new (.cells (gL g) 23)=h1 at j hn y⊢;simp only[Aa,As,Cp hn,Cw j rfl,Cy j rfl,Aj (show(gL g).length=6 from rfl),gL,I,Ac];rw[Cl (n:=g.Z-g.P),Cl (n:=g.Z-g.P-2)];refine Ok.bE (P:=fun v h2=>v=I g.E5/\Ext h1.lift h2) ⟨_,_,UE s _,rfl,Av.new _ _⟩ (fun _ _ p=>p.2) ?_;rintro _ h2 B ⟨rfl,_⟩ _ A;have f:B.get h.next=some (.cells (gL g) 23):=by rw[A.get _ hn id];exact j
 simp only[Aa,Cw f rfl,gL,I,Ac];unfold Gm.E5;rw[Cl (n:=g.D-1),Cl (n:=(g.D-1)*(g.Z-g.P-2)),Cl (n:=(g.D-1)*(g.Z-g.P-2)-(g.D*g.P+4)),Cl (n:=(g.D-1)*(g.Z-g.P-2)-(g.D*g.P+4)+1),
  Cl (n:=g.D*(g.Z-g.P-2)),Cl (n:=2*(g.D*g.P+4)),Cl (n:=g.D*(g.Z-g.P-2)-2*(g.D*g.P+4)),Cl (n:=g.D*(g.Z-g.P-2)-2*(g.D*g.P+4)+1),
  min2,Au,Buf]
 simp only[Ac,Aa,Cw f rfl,gL,I];have C:g.least=min ((g.D-1)*(g.Z-g.P-2)-(g.D*g.P+4)+1) (g.D*(g.Z-g.P-2)-2*(g.D*g.P+4)+1):=rfl;rw[<-C];have E : -10000<=g.least:=by omega
 have J:g.least<=10000:=by omega
 rw[Cl (n:=g.least/2-1),Cl (n:=g.D*g.P),Cl (n:=g.least/2-1-g.D*g.P)];exact .ret ⟨rfl,y.trans A⟩
end
theorem VR {g:Gm}(s:Sm g): -2000<=g.segments/\g.segments<=2000:=by
 obtain⟨⟨f,j⟩,⟨b0,b1⟩,c0,c1⟩:=s.zH;have y:g.least=min ((g.D-1)*(g.Z-g.P-2)-(g.D*g.P+4)+1) (g.D*(g.Z-g.P-2)-2*(g.D*g.P+4)+1):=rfl;have hs:g.segments=g.least/2-1-g.D*g.P:=rfl;omega
theorem tS(g:Gm)(h:Ab):Ok (M0 K (gV g) h) fun v h'=>v=.bool (rtB g)/\Ext h h':=by
 simp only[M0,gV,Aa];have y:(h.new (.cells (gL g) 23)).get h.next=some (.cells (gL g) 23):=Ad _ _
 have hn:h.next<(h.new (.cells (gL g) 23)).next:=aO _
 have E:Ext h (h.new (.cells (gL g) 23)):=Av.new _ _;generalize h.new (.cells (gL g) 23)=h1 at y hn E⊢;simp only[Aa,As,Cp hn,Cw y rfl,Cy y rfl,Aj (show(gL g).length=6 from rfl)];refine Ok.bE (P:=fun v h2=>v=.bool (kv g)/\Ext h1.lift h2) ⟨_,_,A3u g _,rfl,Av.new _ _⟩ (fun _ _ p=>p.2) ?_;rintro _ h2 L ⟨rfl,_⟩ _ J;have C:L.get h.next=some (.cells (gL g) 23):=by rw[J.get _ hn id];exact y
 unfold rtB;cases hs:kv g with
 | false=>simp only[Aa,Ac,Pw,L8,av];exact .ret ⟨rfl,E.trans J⟩
 | true=>
 have s:=V6 hs;have:=s.b0;have:=s.b1;simp only[Aa,Ac,As,Cp hn,Cw C rfl,Cy C rfl,Aj (show(gL g).length=6 from rfl),bI];refine Ok.bE (P:=fun v h4=>v=I g.parts/\Ext L.lift h4) ⟨_,_,tM s _,rfl,Av.new _ _⟩ (fun _ _ p=>p.2) ?_;rintro _ h4 O ⟨rfl,_⟩ _ U;have f:=J.trans U;have j:O.get h.next=some (.cells (gL g) 23):=by rw[f.get _ hn id];exact y
 simp only[Aa,Ac,As,Cp hn,Cw j rfl,gL,I,Pw];by_cases hp:g.parts<=g.S
 ·simp only[hp,aC,Aa,As,Cp hn,Cw j rfl,Cy j rfl,Aj (show(gL g).length=6 from rfl),gL,I,Ac,bI]
  refine Ok.bE (Axv s _) (fun _ _ p=>p.2) ?_;rintro _ X Y ⟨rfl,_⟩ _ W;obtain⟨t0,t1⟩:=VR s;have:=s.s0;have:=s.s1;obtain⟨m0,m1⟩:=vT (a:=g.S) (b:=g.segments) (A:=64) (B:=2000);simp only[Ac,I,L8,Aa];rw[Cl (n:=2*g.B),Cl (n:=g.S*g.segments)];exact .ret ⟨rfl,E.trans (f.trans W)⟩
 ·simp only[hp,aA,Aa,Ac,L8,av]
  exact .ret ⟨rfl,E.trans f⟩
theorem Bph {n:Int}(h0 : -100000<=n)(h1:n<=100000)(h:Ab):Ow K (I n) h=some (I (n/2),h):=by
 simp only[Ow,I,Ac,Aa];by_cases hn:n<0
 ·simp only[hn,aC,Aa,Ac]
  rw[Cl,rU (by omega) (by omega) (by omega)];simp only[Bnh];rw[Cl,show 0-(1-n)/2=n/2 by omega]
 ·simp only[hn,aA,Aa,Yw]
  rw[rU (by omega) (by omega) (by omega)]
theorem A9r {g:Gm}(s:Sm g){a:Nat}(j:h.get a=some (.cells (gL g) 88)):∀(m:Nat) (i:Int),0<=i->(g.B-i).toNat<m->i<=g.B+1->i%2=0 ->
 Gg K m (.ptr a 0) (I (1+i/2)) (I i) h=some (I g.parts,h):=by
 have:=s.b0;have:=s.b1;intro m;induction m with
 | zero=>intro i _ hm;omega
 | succ m y=>
  intro i C hm hle A;simp only[Gg,Aa,Ac,Cw j rfl,gL,I];by_cases f:i<g.B
  ·simp only[f,aC,Aa,Ac,Tu,Tt]
   rw[Cl (n:=1+i/2+1),Cl (n:=i+2),show 1+i/2+1=1+(i+2)/2 by omega];exact y (i+2) (by omega) (by omega) (by omega) (by omega)
  ·simp only[f,aA,Aa,Tw]
   unfold Gm.parts;rw[show 1+i/2=1+(g.B+1)/2 by omega]
theorem Bgj {g:Gm}(s:Sm g)(hK:1000<K)(h:Ab):K2 K (gV g) h=some (I g.parts,h.new (.cells (gL g) 88)):=by
 have:=s.b0;have:=s.b1;simp only[K2,gV,Aa];exact A9r s (Ad _ _) K 0 (by omega) (by omega) (by omega) (by omega)
theorem A6n {g:Gm}(s:Sm g)(h:Ab):Ok (Is K (gV g) h) fun v h'=>v=I g.segments/\Ext h h':=by
 obtain⟨⟨E,J⟩,⟨b0,b1⟩,c0,c1⟩:=s.zH;have:=s.d0;have:=s.d1;have:=s.p0;have:=s.p1;have:=s.z0;have:=s.z1;simp only[Is,gV,Aa];have j:(h.new (.cells (gL g) 88)).get h.next=some (.cells (gL g) 88):=Ad _ _
 have hn:h.next<(h.new (.cells (gL g) 88)).next:=aO _
 have A:Ext h (h.new (.cells (gL g) 88)):=Av.new _ _;generalize h.new (.cells (gL g) 88)=h1 at j hn A⊢;have L:g.least=min ((g.D-1)*(g.Z-g.P-2)-(g.D*g.P+4)+1) (g.D*(g.Z-g.P-2)-2*(g.D*g.P+4)+1):=rfl;have fin:∀n,n=g.least->Ok (Kj K (.ptr h.next 0) (I n) h1) fun v h'=>v=I g.segments/\Ext h h':=by
  rintro _ rfl;simp only[Kj,Aa];refine Ok.bE (P:=fun v h2=>v=I (g.least/2)/\Ext h1.lift h2) ⟨_,_,Bph (by omega) (by omega) _,rfl,Av.refl _⟩ (fun _ _ p=>p.2) ?_;rintro _ h2 C ⟨rfl,_⟩ _ B;have y:C.get h.next=some (.cells (gL g) 88):=by rw[B.get _ hn id];exact j
  simp only[Aa,As,Cp hn,Cw y rfl,gL,I,Ac];rw[Cl (n:=g.least/2-1),Cl (n:=g.D*g.P),Cl (n:=g.least/2-1-g.D*g.P)];exact .ret ⟨rfl,A.trans B⟩
 simp only[Aa,Cw j rfl,gL,I,Ac];rw[Cl (n:=g.Z-g.P),Cl (n:=g.Z-g.P-2),Cl (n:=g.D*g.P),Cl (n:=g.D*g.P+4),
  Cl (n:=g.D-1),Cl (n:=(g.D-1)*(g.Z-g.P-2)),Cl (n:=(g.D-1)*(g.Z-g.P-2)-(g.D*g.P+4)),Cl (n:=(g.D-1)*(g.Z-g.P-2)-(g.D*g.P+4)+1),
  Cl (n:=g.D*(g.Z-g.P-2)),Cl (n:=2*(g.D*g.P+4)),Cl (n:=g.D*(g.Z-g.P-2)-2*(g.D*g.P+4)),Cl (n:=g.D*(g.Z-g.P-2)-2*(g.D*g.P+4)+1)]
 by_cases f:g.D*(g.Z-g.P-2)-2*(g.D*g.P+4)+1<(g.D-1)*(g.Z-g.P-2)-(g.D*g.P+4)+1
 ·simp only[f,aC,Aa]
  exact fin _ (by omega)
 ·simp only[f,aA,Aa]
  exact fin _ (by omega)
theorem Big(g:Gm)(hK:1000<K)(h:Ab):Ok (Hv K (gV g) h) fun v h'=>v=.bool (rtB g)/\Ext h h':=by
 simp only[Hv,gV,Aa];have j:(h.new (.cells (gL g) 88)).get h.next=some (.cells (gL g) 88):=Ad _ _
 have hn:h.next<(h.new (.cells (gL g) 88)).next:=aO _
 have C:Ext h (h.new (.cells (gL g) 88)):=Av.new _ _;generalize h.new (.cells (gL g) 88)=h1 at j hn C⊢;have no:∀b,b=false->Ok (some (.bool false,h1)) fun v h'=>v=.bool (b&&(decide (g.parts<=g.S)&&decide (2*g.B<=g.S*g.segments)))/\Ext h h':=by
  rintro _ rfl;exact .ret ⟨by rw[av],C⟩
 unfold rtB;have f:∀{p:Prop} [Decidable p],¬p->(kv g=true->p)->kv g=false:=fun hp hq=>by
  cases hb:kv g with
  | false=>rfl
  | true=>exact absurd (hq hb) hp
 simp only[Aa,Cw j rfl,gL,I,Ac];by_cases c1:g.D<3
 ·simp only[c1,aC,Aa,Ac,Ht,F6,E3,Ec,Dp,Cz,Cu,Cm,Ca,By,Bt]
  exact no _ (f (p:=¬g.D<3) (by simpa using c1) fun hb=>by have:=(V6 hb).d0;omega)
 simp only[c1,aA,Aa,Ac,Cw j rfl,gL,I,Ht];by_cases c2:8<g.D
 ·simp only[c2,aC,Aa,Ac,F6,E3,Ec,Dp,Cz,Cu,Cm,Ca,By,Bt]
  exact no _ (f (p:=¬8<g.D) (by simpa using c2) fun hb=>by have:=(V6 hb).d1;omega)
 simp only[c2,aA,Aa,Ac,Cw j rfl,gL,I,F6];by_cases c3:g.Z<1
 ·simp only[c3,aC,Aa,Ac,E3,Ec,Dp,Cz,Cu,Cm,Ca,By,Bt]
  exact no _ (f (p:=¬g.Z<1) (by simpa using c3) fun hb=>by have:=(V6 hb).z0;omega)
 simp only[c3,aA,Aa,Ac,Cw j rfl,gL,I,E3];by_cases c4:64<g.Z
 ·simp only[c4,aC,Aa,Ac,Ec,Dp,Cz,Cu,Cm,Ca,By,Bt]
  exact no _ (f (p:=¬64<g.Z) (by simpa using c4) fun hb=>by have:=(V6 hb).z1;omega)
 simp only[c4,aA,Aa,Ac,Cw j rfl,gL,I,Ec];by_cases E:g.S<4
 ·simp only[E,aC,Aa,Ac,Dp,Cz,Cu,Cm,Ca,By,Bt]
  exact no _ (f (p:=¬g.S<4) (by simpa using E) fun hb=>by have:=(V6 hb).s0;omega)
 simp only[E,aA,Aa,Ac,Cw j rfl,gL,I,Dp];by_cases J:64<g.S
 ·simp only[J,aC,Aa,Ac,Cz,Cu,Cm,Ca,By,Bt]
  exact no _ (f (p:=¬64<g.S) (by simpa using J) fun hb=>by have:=(V6 hb).s1;omega)
 simp only[J,aA,Aa,Ac,Cw j rfl,gL,I,Cz];by_cases L:g.B<1
 ·simp only[L,aC,Aa,Ac,Cu,Cm,Ca,By,Bt]
  exact no _ (f (p:=¬g.B<1) (by simpa using L) fun hb=>by have:=(V6 hb).b0;omega)
 simp only[L,aA,Aa,Ac,Cw j rfl,gL,I,Cu];by_cases U:256<g.B
 ·simp only[U,aC,Aa,Ac,Cm,Ca,By,Bt]
  exact no _ (f (p:=¬256<g.B) (by simpa using U) fun hb=>by have:=(V6 hb).b1;omega)
 simp only[U,aA,Aa,Ac,Cw j rfl,gL,I,Cm];by_cases W:g.P<0
 ·simp only[W,aC,Aa,Ac,Ca,By,Bt]
  exact no _ (f (p:=¬g.P<0) (by simpa using W) fun hb=>by have:=(V6 hb).p0;omega)
 simp only[W,aA,Aa,Ac,Cw j rfl,gL,I,Ca];by_cases d1:4<g.P
 ·simp only[d1,aC,Aa,Ac,By,Bt]
  exact no _ (f (p:=¬4<g.P) (by simpa using d1) fun hb=>by have:=(V6 hb).p1;omega)
 simp only[d1,aA,Aa,Ac,Cw j rfl,gL,I,By];by_cases d2:g.O<4
 ·simp only[d2,aC,Aa,Ac,Bt]
  exact no _ (f (p:=¬g.O<4) (by simpa using d2) fun hb=>by have:=(V6 hb).o0;omega)
 simp only[d2,aA,Aa,Ac,Cw j rfl,gL,I,Bt];by_cases d3:64<g.O
 ·simp only[d3,aC,Aa]
  exact no _ (f (p:=¬64<g.O) (by simpa using d3) fun hb=>by have:=(V6 hb).o1;omega)
 have hs:kv g=true:=by
  simp only[kv,aS,Ez];omega
 have s:=V6 hs;rw[hs];simp only[d3,aA,Aa,Ac,T2,As,Cp hn,Cy j rfl,Aj (show(gL g).length=6 from rfl),bI];refine Ok.bE (P:=fun v h4=>v=I g.parts/\Ext h1.lift h4) ⟨_,_,Bgj s hK _,rfl,Av.new _ _⟩ (fun _ _ p=>p.2) ?_;rintro _ h4 Y ⟨rfl,_⟩ _ X;have y:Y.get h.next=some (.cells (gL g) 88):=by rw[X.get _ hn id];exact j
 simp only[Aa,Ac,As,Cp hn,Cw y rfl,gL,I];by_cases hp:g.parts<=g.S
 ·simp only[hp,aC,Aa,As,Cp hn,Cw y rfl,Cy y rfl,Aj (show(gL g).length=6 from rfl),gL,I,Ac,bI]
  refine Ok.bE (A6n s _) (fun _ _ p=>p.2) ?_;rintro _ h6 h7 ⟨rfl,_⟩ _ x7;obtain⟨t0,t1⟩:=VR s;have:=s.s0;have:=s.s1;have:=s.b0;have:=s.b1;obtain⟨m0,m1⟩:=vT (a:=g.S) (b:=g.segments) (A:=64) (B:=2000);simp only[Ac,I,Ir,Aa];rw[Cl (n:=2*g.B),Cl (n:=g.S*g.segments)];exact .ret ⟨rfl,C.trans (X.trans x7)⟩
 ·simp only[hp,aA,Aa,Ac,Ir,av]
  exact .ret ⟨rfl,C.trans X⟩
theorem A5s(h1:1<=n)(h2:n<=4096)(h:Ab):uh K (I n) h=some (.tuple [.ptr (h.next+1) 0,I 0],(h.new (.chan n [])).new (.cells [.chan h.next] 176)):=by
 simp only[uh,I,Ac,Aa];have a:¬(n:Int)<1:=by omega
 have b:¬(4096:Int)<(n:Int):=by omega
 simp only[a,b,aA,Aa,Ac,FO,FN];have hm:ug (.int .i64 (n:Int)) h=some (.chan h.next,h.new (.chan n [])):=by
  show Bb (Nat.ble n 65536) _ none=_;rw[aQ (by omega),Ak]
 rw[hm,Au,Ax (l:=[.chan h.next]) rfl];simp only[Aa];rfl
structure Fa(h:Ab)(p ql n:Nat)(q c:Nat->Nat)(g:Gm)(ps:Nat->List Int):Prop where
 pos:0<n
 Gn:h.get p=some (.cells (gL g++[.slice ql 0 n n true]) 123)
 row:h.get ql=some (.vec ((List.range n).map fun d=>.ptr (q d) 0) 124 1)
 que:∀d,d<n->h.get (q d)=some (.cells [.chan (c d)] 176)
 chan:∀d,d<n->h.get (c d)=some (.chan g.Z.toNat ((ps d).map I))
 inj:∀d e,d<n->e<n->c d=c e->d=e
structure zI(h0 h:Ab)(p ql i:Nat)(q c:Nat->Nat)(g:Gm)(s:EV):Prop where
 Gn:h.get p=some (.cells (gL g++[s]) 123)
 row:Cd h s ql 124 1 i ((List.range i).map fun d=>.ptr (q d) 0)
 que:∀d,d<i->h.get (q d)=some (.cells [.chan (c d)] 176)
 chan:∀d,d<i->h.get (c d)=some (.chan g.Z.toNat [])
 inj:∀d e,d<i->e<i->c d=c e->d=e
 new:h0.next<=p/\(0<i->h0.next<=ql)/\∀d,d<i->h0.next<=q d/\h0.next<=c d
 ext:Ext h0 h
 hb:HB h
theorem A3w {g:Gm}(s:Sm g)(h0:Ab){b p:Nat}(aa:b<h0.next)(hg:h0.get b=some (.cells (gL g) 23)):∀(m i:Nat) (ql:Nat) (q c:Nat->Nat) (A:EV) (h:Ab),g.D.toNat-i<m->i<=g.D.toNat->zI h0 h p ql i q c g A ->
 Ok (r_ K m (.ptr b 0) (.ptr p 0) (I g.D) (I i) h) fun v h'=>v=.tuple [.ptr p 0,I 0]/\Ext h0 h'/\HB h'/\∃ql q c A,zI h0 h' p ql g.D.toNat q c g A:=by
 have:=s.d0;have:=s.d1;have:=s.z0;have:=s.z1;intro m;induction m with
 | zero=>intro i _ _ _ _ _ hm;omega
 | succ m ih=>
  intro i ql q c A h hm hi P;simp only[r_,I,Ac,Aa];by_cases L:(i:Int)<g.D
  ·have ab:h.get b=some (.cells (gL g) 23):=by rw[P.ext.get _ aa id];exact hg
   simp only[L,aC,Aa,GF,Cw ab rfl,gL,I];have hq:=A5s (K:=K) (n:=g.Z.toNat) (by omega) (by omega) h;rw[gG (by omega)]at hq;simp only[I]at hq;simp only[hq,Aa,Ac,aB,aA,GD];have e1:Ext h ((h.new (.chan g.Z.toNat [])).new (.cells [.chan h.next] 176)):=(Av.new _ _).trans (Av.new _ _);have y:HB ((h.new (.chan g.Z.toNat [])).new (.cells [.chan h.next] 176)):=(P.hb.new _).new _;have gq:((h.new (.chan g.Z.toNat [])).new (.cells [.chan h.next] 176)).get (h.next+1)=some (.cells [.chan h.next] 176):=Ad _ _;have gc:((h.new (.chan g.Z.toNat [])).new (.cells [.chan h.next] 176)).get h.next=some (.chan g.Z.toNat []):=by rw[Ay _ (aO _)];exact Ad _ _
   have n1:((h.new (.chan g.Z.toNat [])).new (.cells [.chan h.next] 176)).next=h.next+2:=rfl
   generalize (h.new (.chan g.Z.toNat [])).new (.cells [.chan h.next] 176)=h1 at e1 y gq gc n1⊢;have gp:h1.get p=some (.cells (gL g++[A]) 123):=e1.at P.hb P.Gn;have E:Cd h1 A ql 124 1 i ((List.range i).map fun d=>.ptr (q d) 0):=P.row.frame fun hl=>e1.get _ (P.hb _ _ (P.row.block hl)) id
   have lp:=P.hb _ _ P.Gn;rw[Cw gp rfl,show(gL g++[A])[6]? = some A from rfl,G2];refine Md (z:=[.Ch]) E y rfl rfl rfl (by omega) (by omega) ?_;intro h2 J n2 c2;have n0:=P.ext.next
   have B:∀x o,h1.get x=some o->(∀l e sz,o≠.vec l e sz)->¬(0<i/\x=ql):=by
    rintro x o Y O ⟨hl,rfl⟩;rw[E.block hl]at Y;cases Y;exact O _ _ _ rfl
   have W:h2.get p=some (.cells (gL g++[A]) 123):=c2.at y gp (B _ _ gp (by intros;simp));refine Ok.st (gL g++[EV.slice (h1.next+1) 0 (i+1) (i+1) true]) W rfl rfl rfl ?_;simp only[GC,I,Ac];rw[Cl];have hE:Ext h h2->Ext h0 h2:=fun x=>P.ext.trans x
   have x2:Ext h0 h2:=by
    refine(P.ext.trans e1).then c2 fun j hj L=>?_
    have:=(P.new.2.1 hj.1);omega
   have x3:Ext h0 (h2.put p (.cells (gL g++[EV.slice (h1.next+1) 0 (i+1) (i+1) true]) 123)):=x2.Ar (.inr P.new.1) (by have:=c2.next;omega) _;have af:=c2.hb y;have ag:HB (h2.put p (.cells (gL g++[EV.slice (h1.next+1) 0 (i+1) (i+1) true]) 123)):=af.put (by have:=c2.next;omega) _;have Br:∀x o,h.get x=some o->(∀l e sz,o≠.vec l e sz)->x≠p->(h2.put p (.cells (gL g++[EV.slice (h1.next+1) 0 (i+1) (i+1) true]) 123)).get x=some o:=by
    intro x o Y O ah;rw[Af _ (cY ah)];have X:=e1.at P.hb Y;exact c2.at y X (B _ _ X O)
   have au:h.next<h1.next:=by omega
   have P':zI h0 (h2.put p (.cells (gL g++[EV.slice (h1.next+1) 0 (i+1) (i+1) true]) 123)) p (h1.next+1) (i+1) (fun d=>if d=i then h.next+1 else q d) (fun d=>if d=i then h.next else c d) g (.slice (h1.next+1) 0 (i+1) (i+1) true):=by
    refine⟨Ae _ _ _,?_,?_,?_,?_,⟨P.new.1,fun _=>by omega,?_⟩,x3,ag⟩
    ·have:(List.range (i+1)).map (fun d=>EV.ptr (if d=i then h.next+1 else q d) 0)=((List.range i).map fun d=>EV.ptr (q d) 0)++EV.cells (.ptr (h.next+1) 0):=by
      rw[dE,cR];congr 1
      ·refine cm fun d hd=>?_
       rw[aG (by have:=dL.1 hd;omega)]
      ·simp[EV.cells]
     rw[this];refine J.frame fun _=>Af _ ?_
     have:=J.block (by omega);exact Az W this (by simp)
    ·intro d hd
     by_cases f:d=i
     ·subst f
      simp only[bJ];rw[Af _];exact c2.at y gq (B _ _ gq (by intros;simp))
     ·simp only[f,ak]
      have:=P.que d (by omega);exact Br _ _ this (by intros;simp) (Az this P.Gn (by simp))
    ·intro d hd
     by_cases f:d=i
     ·subst f
      simp only[bJ];rw[Af _];exact c2.at y gc (B _ _ gc (by intros;simp))
     ·simp only[f,ak]
      have:=P.chan d (by omega);exact Br _ _ this (by intros;simp) (Az this P.Gn (by simp))
    ·intro d e hd he C
     have lc:=fun d (hd:d<i)=>P.hb _ _ (P.chan d hd)
     by_cases f:d=i<;>by_cases U:e=i
     ·omega
     ·simp only[f,U,bJ,ak]at C;have:=lc e (by omega);omega
     ·simp only[f,U,bJ,ak]at C;have:=lc d (by omega);omega
     ·simp only[f,U,ak]at C;exact P.inj d e (by omega) (by omega) C
    ·intro d hd
     by_cases f:d=i
     ·subst f;simp only[bJ];omega
     ·simp only[f,ak];exact P.new.2.2 d (by omega)
   exact ih (i+1) _ _ _ _ _ (by omega) (by omega) P'
  ·have:i=g.D.toNat:=by omega
   subst this;simp only[L,aA,Aa,GB];exact .ret ⟨rfl,P.ext,P.hb,ql,q,c,A,P⟩
theorem A51 {g:Gm}(X:rtB g=true)(hK:1000<K)(hb:HB h):Ok (qe K (gV g) h) fun v h'=>∃p ql q c,v=.tuple [.ptr p 0,I 0]/\Ext h h'/\HB h'/\Fa h' p ql g.D.toNat q c g (fun _=>[])/\h.next<=p/\h.next<=ql/\∀d,d<g.D.toNat->h.next<=q d/\h.next<=c d:=by
 have s:=Ja X;have:=s.d0;have:=s.d1;simp only[qe,gV,Aa];have L:(h.new (.cells (gL g) 23)).get h.next=some (.cells (gL g) 23):=Ad _ _
 have hn:h.next<(h.new (.cells (gL g) 23)).next:=aO _
 have J:Ext h (h.new (.cells (gL g) 23)):=Av.new _ _;generalize h.new (.cells (gL g) 23)=h1 at L hn J⊢;simp only[Cy L rfl,Aj (show(gL g).length=6 from rfl),Aa];refine(tS g h1).Am ?_;rintro _ h2 ⟨rfl,y⟩;rw[X];have j:h2.get h.next=some (.cells (gL g) 23):=by rw[y.get _ hn id];exact L
 have A:h.next<h2.next:=aN hn y.next
 simp only[Aa,GG,Cy j rfl,Aj (show(gL g).length=6 from rfl)];rw[Ax (l:=gL g++[.Aq]) rfl];simp only[Aa];have O:=(y.hb (J.hb hb));have B:(h2.new (.cells (gL g++[.Aq]) 123)).get h.next=some (.cells (gL g) 23):=by rw[Ay _ A];exact j
 have C:(h2.new (.cells (gL g++[.Aq]) 123)).get h2.next=some (.cells (gL g++[.Aq]) 123):=Ad _ _
 have Y:Ext h2 (h2.new (.cells (gL g++[.Aq]) 123)):=Av.new _ _;have E:HB (h2.new (.cells (gL g++[.Aq]) 123)):=O.new _;have n3:h2.next<(h2.new (.cells (gL g++[.Aq]) 123)).next:=aO _
 generalize h2.new (.cells (gL g++[.Aq]) 123)=h3 at B C Y E n3⊢;simp only[Cw B rfl,gL,Aa,I];refine(A3w (K:=K) (p:=h2.next) s h2 A j K 0 0 (fun _=>0) (fun _=>0) .Aq h3 (by omega) (by omega) ⟨C,.nil _ _ _ _,fun d hd=>absurd hd (cI _),fun d hd=>absurd hd (cI _),fun d e hd=>absurd hd (cI _),⟨aE _,fun x=>absurd x (bN _),fun d hd=>absurd hd (cI _)⟩,Y,E⟩).mono ?_;rintro v h' ⟨rfl,x4,U,ql,q,c,sl,P⟩;refine⟨h2.next,ql,q,c,rfl,J.trans (y.trans x4),U,?_⟩;have f:0<g.D.toNat:=by omega
 have W:=P.row.slice f;subst W;have t:=J.next
 have t2:=y.next
 exact⟨⟨f,P.Gn,P.row.block f,P.que,P.chan,P.inj⟩,by omega,by have:=P.new.2.1 f;omega,fun d hd=>by have:=P.new.2.2 d hd;omega⟩
theorem A8t {g:Gm}(f:rtB g=false)(h:Ab):Ok (qe K (gV g) h) fun v h'=>v=.tuple [.Ch,I 20]/\Ext h h':=by
 simp only[qe,gV,Aa];obtain⟨h1,j,y,A,_⟩:=nW h (.cells (gL g) 23);rw[j];simp only[Cy A rfl,Aj (show(gL g).length=6 from rfl),Aa];refine(tS g h1).Am ?_;rintro _ h2 ⟨rfl,B⟩;rw[f];simp only[Aa];exact .ret ⟨rfl,y.trans B⟩
theorem A1t(n a:Int)(h:Ab):r7 K (I n) (I a) h=some (.bool (wi n 1 a),h):=by
 simp only[r7,I,Ac,Aa];by_cases h1:1<=n
 ·simp only[h1,aC,Aa,Ac,xw,wi,bI]
 ·simp only[h1,aA,Aa,Ac,xw,wi,av]
def Vh(size:Int):D3:=.cells [.Aq,I size,I 0,I 0,.bool false] 202
theorem A6i {size:Int}(h1:1<=size)(h2:size<=64)(h:Ab):Ms K (I size) h=some (.tuple [.ptr h.next 0,I 0],h.new (Vh size)):=by
 have a:¬size<1:=by omega
 have b:¬64<size:=by omega
 simp only[Ms,I,Ac,Aa,a,b,aA,Uv,Va];rw[Ax (l:=[.Aq,I size,I 0,I 0,.bool false]) rfl];simp only[Aa];rfl
structure Zn where
 l:List (List EV)
 safe:Nat
 st:Nat
 fin:Bool
def Zn.empty:Zn:=⟨[],0,0,false⟩
structure Fg(h:Ab)(z q:Nat)(size:Int)(Z:Zn):Prop where
 Al:∃s,h.get z=some (.cells [s,I size,I Z.safe,I Z.st,.bool Z.fin] 202)/\Cd h s q 30 64 Z.l.length Z.l.flatten
 wf:∀x∈Z.l,x.length=64
structure Lv(h:Ab)(V zl n:Nat)(z q:Nat->Nat)(size op cnt:Int)(down:Bool)(Zs:Nat->Zn):Prop where
 pos:0<n
 dev:h.get V=some (.cells [.slice zl 0 n n true,I size,I op,I cnt,.bool down] 183)
 row:h.get zl=some (.vec ((List.range n).map fun i=>.ptr (z i) 0) 184 1)
 Al:∀i,i<n->Fg h (z i) (q i) size (Zs i)
 A7d:∀i j,i<n->j<n->z i=z j->i=j
 A8b:∀i j,i<n->j<n->(Zs i).l≠[]->(Zs j).l≠[]->q i=q j->i=j
structure vU(h0 h:Ab)(V zl i:Nat)(z:Nat->Nat)(size op:Int)(s:EV):Prop where
 dev:h.get V=some (.cells [s,I size,I op,I 0,.bool false] 183)
 row:Cd h s zl 184 1 i ((List.range i).map fun d=>.ptr (z d) 0)
 Al:∀d,d<i->h.get (z d)=some (Vh size)
 A7d:∀d e,d<i->e<i->z d=z e->d=e
 new:h0.next<=V/\(0<i->h0.next<=zl)/\∀d,d<i->h0.next<=z d
 ext:Ext h0 h
 hb:HB h
theorem A3h {size:Int}(hn:n<=512)(s0:1<=size)(s1:size<=64)(h0:Ab):∀(m i:Nat) (zl:Nat) (z:Nat->Nat) (E:EV) (h:Ab),n-i<m->i<=n->vU h0 h V zl i z size op E ->
 Ok (r8 K m (I size) (.ptr V 0) (I n) (I i) h) fun v h'=>v=.tuple [.ptr V 0,I 0]/\∃zl z E,vU h0 h' V zl n z size op E:=by
 intro m;induction m with
 | zero=>intro i _ _ _ _ hm;omega
 | succ m ih=>
  intro i zl z E h hm hi P;simp only[r8,I,Ac,Aa];by_cases J:(i:Int)<n
  ·simp only[J,aC,Aa,FY]
   have hq:=A6i (K:=K) s0 s1 h;simp only[I]at hq;simp only[hq,Aa,Ac,aB,aA,FX];have e1:Ext h (h.new (Vh size)):=Av.new _ _;have y:HB (h.new (Vh size)):=P.hb.new _;have gz:(h.new (Vh size)).get h.next=some (Vh size):=Ad _ _
   have n1:(h.new (Vh size)).next=h.next+1:=rfl
   generalize h.new (Vh size)=h1 at e1 y gz n1⊢;have U:h1.get V=some (.cells [E,I size,I op,I 0,.bool false] 183):=e1.at P.hb P.dev;have B:Cd h1 E zl 184 1 i ((List.range i).map fun d=>.ptr (z d) 0):=P.row.frame fun hl=>e1.get _ (P.hb _ _ (P.row.block hl)) id
   have lp:=P.hb _ _ P.dev;rw[Cw U rfl];simp only[Aa];refine Md (z:=[.Ch]) B y rfl rfl rfl (by omega) (by omega) ?_;intro h2 C n2 c2;have n0:=P.ext.next
   have W:∀x o,h1.get x=some o->(∀l e sz,o≠.vec l e sz)->¬(0<i/\x=zl):=by
    rintro x o hx L ⟨hl,rfl⟩;rw[B.block hl]at hx;cases hx;exact L _ _ _ rfl
   have X:=c2.at y U (W _ _ U (by intros;simp));refine Ok.gT X rfl rfl (by show 0<5;decide) ?_;simp only[FW,I,Ac,List.set];rw[Cl];have x2:Ext h0 h2:=by
    refine(P.ext.trans e1).then c2 fun j hj J=>?_
    have:=(P.new.2.1 hj.1);omega
   have ae:=c2.hb y;have Y:V<h2.next:=by have:=c2.next;omega
   have x3:=x2.Ar (.inr P.new.1) Y (.cells [EV.slice (h1.next+1) 0 (i+1) (i+1) true,I size,I op,I 0,.bool false] 183);have af:=ae.put Y (.cells [EV.slice (h1.next+1) 0 (i+1) (i+1) true,I size,I op,I 0,.bool false] 183);have Br:∀x o,h1.get x=some o->(∀l e sz,o≠.vec l e sz)->x≠V->(h2.put V (.cells [EV.slice (h1.next+1) 0 (i+1) (i+1) true,I size,I op,I 0,.bool false] 183)).get x=some o:=by
    intro x o aa L ag;rw[Af _ (cY ag)];exact c2.at y aa (W _ _ aa L)
   have P':vU h0 (h2.put V (.cells [EV.slice (h1.next+1) 0 (i+1) (i+1) true,I size,I op,I 0,.bool false] 183)) V (h1.next+1) (i+1) (fun d=>if d=i then h.next else z d) size op (.slice (h1.next+1) 0 (i+1) (i+1) true):=by
    refine⟨Ae _ _ _,?_,?_,?_,⟨P.new.1,fun _=>by omega,?_⟩,x3,af⟩
    ·have:(List.range (i+1)).map (fun d=>EV.ptr (if d=i then h.next else z d) 0)=((List.range i).map fun d=>EV.ptr (z d) 0)++EV.cells (.ptr h.next 0):=by
      rw[dE,cR];congr 1
      ·refine cm fun d hd=>?_
       rw[aG (by have:=dL.1 hd;omega)]
      ·simp[EV.cells]
     rw[this];refine C.frame fun _=>Af _ ?_
     have:=C.block (by omega);exact Az X this (by simp)
    ·intro d hd
     by_cases f:d=i
     ·subst f
      simp only[bJ];exact Br _ _ gz (by intros;simp[Vh]) (Az gz U (by simp[Vh]))
     ·simp only[f,ak]
      have:=e1.at P.hb (P.Al d (by omega));exact Br _ _ this (by intros;simp[Vh]) (Az this U (by simp[Vh]))
    ·intro d e hd he A
     have lc:=fun d (hd:d<i)=>P.hb _ _ (P.Al d hd)
     by_cases f:d=i<;>by_cases O:e=i
     ·omega
     ·simp only[f,O,bJ,ak]at A;have:=lc e (by omega);omega
     ·simp only[f,O,bJ,ak]at A;have:=lc d (by omega);omega
     ·simp only[f,O,ak]at A;exact P.A7d d e (by omega) (by omega) A
    ·intro d hd
     by_cases f:d=i
     ·subst f;simp only[bJ];omega
     ·simp only[f,ak];exact P.new.2.2 d (by omega)
   exact ih (i+1) _ _ _ _ (by omega) (by omega) P'
  ·have:i=n:=by omega
   subst this;simp only[J,aA,Aa,FV];exact .ret ⟨rfl,zl,z,E,P⟩
def ti(jr size op:Int):Bool:=wi jr 1 512&&wi op 1 64&&wi size 1 64
theorem A67 {jr size:Int}(A:ti jr size op=true)(hK:1000<K)(hb:HB h):Ok (ui K (I jr) (I size) (I op) h) fun v h'=>∃V zl z,v=.tuple [.ptr V 0,I 0]/\Ext h h'/\HB h'/\Lv h' V zl jr.toNat z (fun _=>0) size op 0 false (fun _=>Zn.empty)/\h.next<=V/\h.next<=zl/\∀d,d<jr.toNat->h.next<=z d:=by
 simp only[ti,aS]at A;obtain⟨⟨B,C⟩,E⟩:=A;obtain⟨O,U⟩:=Ez.1 B;obtain⟨c0,c1⟩:=Ez.1 E;have w:=fun n a=>A1t (K:=K) n a h
 simp only[I]at w;simp only[ui,I,w,B,C,Aa,Ac,F_,FZ];rw[Ax (l:=[.Aq,I size,I op,I 0,.bool false]) rfl];simp only[Aa];have P:vU h (h.new (.cells [.Aq,I size,I op,I 0,.bool false] 183)) h.next 0 0 (fun _=>0) size op .Aq:=
  ⟨Ad _ _,.nil _ _ _ _,fun d hd=>absurd hd (cI _),fun d e hd=>absurd hd (cI _),⟨aE _,fun x=>absurd x (bN _),fun d hd=>absurd hd (cI _)⟩,Av.new _ _,hb.new _⟩
 have:=A3h (K:=K) (n:=jr.toNat) (by omega) c0 c1 h K 0 0 (fun _=>0) .Aq _ (by omega) (by omega) P;rw[gG (by omega)]at this;refine this.mono ?_;rintro v h' ⟨rfl,zl,z,W,P⟩;have f:0<jr.toNat:=by omega
 have y:=P.row.slice f;subst y;exact⟨h.next,zl,z,rfl,P.ext,P.hb,⟨f,P.dev,P.row.block f,fun i J=>⟨⟨_,P.Al i J,.nil _ _ _ _⟩,fun x L=>by cases L⟩,P.A7d,fun i j _ _ a=>absurd rfl a⟩,aE _,P.new.2.1 f,P.new.2.2⟩
structure oe(h:Ab)(D V M zl n:Nat)(z q:Nat->Nat)(size op cnt:Int)(down:Bool)(J3 happened:EV)(marks:List (EV × EV))(Zs:Nat->Zn):Prop where
 D4:h.get D=some (.cells [.ptr V 0,J3,happened,.map M] 143)
 marks:h.get M=some (.map marks)
 dev:Lv h V zl n z q size op cnt down Zs
theorem Lv.ext{z q:Nat->Nat}{size:Int}{Zs:Nat->Zn}(d:Lv h V zl n z q size op cnt down Zs)(g:∀i o,h.get i=some o->h'.get i=some o):Lv h' V zl n z q size op cnt down Zs:=by
 refine⟨d.pos,g _ _ d.dev,g _ _ d.row,fun i f=>?_,d.A7d,d.A8b⟩;obtain⟨s,a,b⟩:=(d.Al i f).Al;exact⟨⟨s,g _ _ a,b.frame fun j=>by rw[g _ _ (b.block j),b.block j]⟩,(d.Al i f).wf⟩
theorem Fa.ext{p:Nat}{q c:Nat->Nat}{g:Gm}(d:Fa h p ql n q c g ps)(e:∀i o,h.get i=some o->h'.get i=some o):Fa h' p ql n q c g ps:=
 ⟨d.pos,e _ _ d.Gn,e _ _ d.row,fun i f=>e _ _ (d.que i f),fun i f=>e _ _ (d.chan i f),d.inj⟩
theorem oe.ext{D M:Nat}{z q:Nat->Nat}{size:Int}{Zs:Nat->Zn}(d:oe h D V M zl n z q size op cnt down J3 happened marks Zs)(e:∀i o,h.get i=some o->h'.get i=some o):
 oe h' D V M zl n z q size op cnt down J3 happened marks Zs:=⟨e _ _ d.D4,e _ _ d.marks,d.dev.ext e⟩
theorem A7r {jr size:Int}(A:ti jr size op=true)(hK:1000<K)(hb:HB h):Ok (r9 K (I jr) (I size) (I op) h) fun v h'=>∃D V M zl z,v=.tuple [.ptr D 0,I 0]/\Ext h h'/\HB h'/\oe h' D V M zl jr.toNat z (fun _=>0) size op 0 false .Aq .Aq [] (fun _=>Zn.empty)/\(h.next<=D/\h.next<=M)/\h.next<=V/\h.next<=zl/\∀d,d<jr.toNat->h.next<=z d:=by
 simp only[r9,dr];refine(A67 (K:=K) A hK hb).Am ?_;rintro _ h1 ⟨V,zl,z,rfl,j,f,d1,nw⟩;simp only[Aa,Ac,I,aB,aA,GA];rw[show uj h1=some (.map h1.next,h1.new (.map []))from rfl,Au,Ax (l:=[.ptr V 0,.Aq,.Aq,.map h1.next]) rfl];simp only[Aa];have y:Ext h1 ((h1.new (.map [])).new (.cells [.ptr V 0,.Aq,.Aq,.map h1.next] 143)):=(Av.new _ _).Da _;refine .ret ⟨(h1.new (.map [])).next,V,h1.next,zl,z,rfl,j.trans y,(f.new _).new _,⟨Ad _ _,?_,d1.ext fun i o g=>y.at f g⟩,⟨by have:=j.next;show h.next<=h1.next+1;omega,j.next⟩,nw⟩;rw[Ay _ (aO _)];exact Ad _ _
section
def kM(ps:Nat->List Int)(n:Nat)(d:Int):Nat:=if 0<=d/\d<n then(ps d.toNat).length else 0
theorem VT{q c:Nat}{buf:List EV}(hq:h.get q=some (.cells [.chan c] 176))(hc:h.get c=some (.chan cap buf)):Fe K (.ptr q 0) h=some (I buf.length,h):=by
 simp only[Fe,Aa,Cw hq rfl];have:uf (.chan c) h=some (I buf.length,h):=by
  show(match h.get c with|some (.chan _ buf)=>some (EV.int .i64 (.ofNat (len buf)),h)|_=>none)=_;rw[hc];simp only;rw[Ye];rfl
 rw[this];rfl
section
variable{p:Nat}{q c:Nat->Nat}{g:Gm}(P:Fa h p ql n q c g ps)
include P
theorem Fa.rowAt:Cd h (.slice ql 0 n n true) ql 124 1 n ((List.range n).map fun d=>.ptr (q d) 0):=.inr ⟨P.pos,rfl,P.row,by simp⟩
theorem Fa.list(k:EV->R):Hq (.ptr p 6) h k=k (.slice ql 0 n n true):=by rw[Cw P.Gn rfl];rfl
theorem Fa.pF(k:EV->R):Pg 6 (.ptr p 0) h k=k (gV g):=by rw[Cy P.Gn rfl];rfl
theorem Fa.og {d:Nat}(hd:d<n)(k:EV->R):Hq (.ptr ql (d*1)) h k=k (.ptr (q d) 0):=by
 rw[Cw P.row rfl,bk,bD,cP hd];rfl
theorem Fa.len {d:Nat}(hd:d<n):Fe K (.ptr (q d) 0) h=some (I (ps d).length,h):=by
 rw[VT (P.que d hd) (P.chan d hd),bh]
theorem A3i(d:Int):Vf K (.ptr p 0) (I d) h=some (I (kM ps n d:Nat),h):=by
 unfold kM;simp only[Vf,I,Ac,Aa];by_cases h1:d<0
 ·simp only[h1,aC,Aa,Ac,Vq]
  rw[aG (by omega)];rfl
 ·simp only[h1,aA,Aa,Ac,P.list,Vq]
  by_cases h2:(n:Int)<=d
  ·simp only[h2,aC,Aa]
   rw[aG (by omega)];rfl
  ·simp only[h2,aA,Aa,FK,P.list]
   have hd:d.toNat<n:=by omega
   have e:d=(d.toNat:Int):=by omega
   rw[e,P.rowAt.ix hd];simp only[Aa,P.og hd];rw[P.len hd,Au,aI (by omega)];rfl
end
def tq(ps:Nat->List Int)(Pf:Int)(b:Int)(d:Nat):Int:=if ¬(d:Int)=Pf/\(b<0\/(ps b.toNat).length<(ps d).length)then d else b
def Ei(ps:Nat->List Int)(Pf:Int)(n:Nat):Int:=(List.range n).foldl (tq ps Pf) (-1)
theorem zJ(ps:Nat->List Int)(Pf:Int)(n:Nat):Ei ps Pf (n+1)=tq ps Pf (Ei ps Pf n) n:=by unfold Ei;rw[dE,List.foldl_append];rfl
theorem yY(ps:Nat->List Int)(Pf:Int):∀n,-1<=Ei ps Pf n/\Ei ps Pf n<(n:Int)/\(Ei ps Pf n = -1\/0<=Ei ps Pf n)
 | 0=>by unfold Ei;simp
 | n+1=>by
  obtain⟨a,b,c⟩:=yY ps Pf n;rw[zJ];unfold tq;split<;>omega
def zK(n:Nat)(ps:Nat->List Int):Prop:=n<=64/\∀d,d<n->(ps d).length<=4096
theorem A7h {p:Nat}{q c:Nat->Nat}{g:Gm}(Pf:Int)(hn:n<=64):∀(m i:Nat) (h:Ab),n-i<m->i<=n->HB h->Fa h p ql n q c g ps ->
 Ok (Hc K m (.ptr p 0) (I Pf) (I (Ei ps Pf i)) (.slice ql 0 n n true) (I n) (I i) h) fun v h'=>v=I (Ei ps Pf n)/\Ext h h':=by
 intro m;induction m with
 | zero=>intro i h hm;omega
 | succ m W=>
  intro i h hm X hb P;simp only[Hc,I,Ac,Aa];by_cases B:(i:Int)<n
  ·have y:i<n:=by omega
   simp only[B,aC,Aa,FM];rw[P.rowAt.ix y,P.og y];obtain⟨b0,b1,b2⟩:=yY ps Pf i;have next:∀(b:Int) (h1:Ab),b=Ei ps Pf (i+1)->Ext h h1->Ok (N4 K (Hc K m) (.ptr p 0) (.int .i64 Pf) (.int .i64 b) (.slice ql 0 n n true) (.int .i64 (n:Int)) (.int .i64 (i:Int)) h1) fun v h'=>v=I (Ei ps Pf n)/\Ext h h':=by
    rintro _ h1 rfl E;simp only[N4,Ac];rw[Cl];exact(W (i+1) h1 (by omega) (by omega) (E.hb hb) (P.ext fun i o g=>E.at hb g)).mono fun v h' a=>⟨a.1,E.trans a.2⟩
   rw[zJ]at next
   unfold tq at next
   simp only[Aa,Ac];by_cases f:(i:Int)=Pf
   ·simp only[f,aB,aA,Aa,Ac,Ng,Hi,He]
    rw[aG (fun x=>x.1 f)]at next
    rw[f]at next
    exact next _ h rfl (Av.refl _)
   ·simp only[f,aR,aC,Aa,Ac,Ng]
    by_cases j:Ei ps Pf i<0
    ·simp only[j,aC,Aa,Ac,Hi,He]
     rw[aI ⟨f,.inl j⟩]at next
     exact next _ h rfl (Av.refl _)
    ·simp only[j,aA,Aa,Ac]
     refine Ok.bE (P:=fun v h2=>v=I (ps i).length/\Ext h.lift h2) ⟨_,_,(P.ext (h':=h.lift) fun i o g=>by rw[Bx];exact g).len y,rfl,Av.refl _⟩ (fun _ _ p=>p.2) ?_;rintro _ h2 J ⟨rfl,_⟩ _ L;have C:Fa J p ql n q c g ps:=P.ext fun i o g=>L.at hb g
     have hp:p<h.next:=hb _ _ P.Gn
     have hq:ql<h.next:=hb _ _ P.row
     have A:(Ei ps Pf i).toNat<n:=by omega
     simp only[Aa,As,Cp hp,C.list];rw[show Ei ps Pf i=((Ei ps Pf i).toNat:Int) by omega,C.rowAt.ix A];simp only[Aa,As,Cp hq,C.og A];refine Ok.bE (P:=fun v h2=>v=I (ps (Ei ps Pf i).toNat).length/\Ext J.lift h2) ⟨_,_,(C.ext (h':=J.lift) fun i o g=>by rw[Bx];exact g).len A,rfl,Av.refl _⟩ (fun _ _ p=>p.2) ?_;rintro _ h4 O ⟨rfl,_⟩ _ U;rw[show((Ei ps Pf i).toNat:Int)=Ei ps Pf i by omega];simp only[Ac,I];by_cases hc:((ps (Ei ps Pf i).toNat).length:Int)<(ps i).length
     ·simp only[hc,aC,Hi,He,Aa,Ac]
      rw[aI ⟨f,.inr (by omega)⟩]at next
      exact next _ O rfl (L.trans U)
     ·simp only[hc,aA,Hi,He,Aa,Ac]
      rw[aG (fun x=>by rcases x.2 with a|a<;>omega)]at next
      exact next _ O rfl (L.trans U)
  ·have:i=n:=by omega
   subst this;simp only[B,aA,Aa,FL];exact .ret ⟨rfl,Av.refl _⟩
theorem zL{p:Nat}{q c:Nat->Nat}{g:Gm}(P:Fa h p ql n q c g ps)(hb:HB h)(hn:n<=64)(hK:1000<K)(Pf:Int):
 Ok (Ke K (.ptr p 0) (I Pf) h) fun v h'=>v=I (Ei ps Pf n)/\Ext h h':=by
 simp only[Ke,Aa,P.list];exact A7h Pf hn K 0 h (by omega) (by omega) hb P
def Od(ps:Nat->List Int)(n:Nat):Nat:=((List.range n).map fun d=>(ps d).length).sum
theorem Ji(ps:Nat->List Int)(n:Nat):Od ps (n+1)=Od ps n+(ps n).length:=by unfold Od;rw[dE,cR,List.sum_append];simp
def Ft(ps:Nat->List Int)(n:Nat):Int:=min ((Od ps n:Int)/2) (Od ps n-kM ps n (Ei ps (-1) n))
theorem Bbz {p:Nat}{q c:Nat->Nat}{g:Gm}(hs:zK n ps)(hb:HB h)(P:Fa h p ql n q c g ps)(hK:1000<K):∀(m i:Nat),n-i<m->i<=n->Od ps i<=4096*i ->
 Ok (L7 K m (.ptr p 0) (I (Od ps i)) (.slice ql 0 n n true) (I n) (I i) h) fun v h'=>v=I (Ft ps n)/\Ext h h':=by
 obtain⟨hn,y⟩:=hs;intro m;induction m with
 | zero=>intro i hm;omega
 | succ m C=>
  intro i hm E A;simp only[L7,I,Ac,Aa];by_cases j:(i:Int)<n
  ·have f:i<n:=by omega
   have:=y i f;simp only[j,aC,Aa,FU];rw[P.rowAt.ix f,P.og f,P.len f,Au];simp only[I,Ac,FR];rw[Cl,Cl];have e:((Od ps i:Int)+(ps i).length)=(Od ps (i+1):Nat):=by rw[Ji];omega
   rw[e];exact C (i+1) (by omega) (by omega) (by rw[Ji];omega)
  ·have:i=n:=by omega
   subst this;simp only[j,aA,Aa,FQ];rw[rU (by omega) (by omega) (by omega)];refine(zL P hb hn hK (-1)).Am ?_;rintro _ h1 ⟨rfl,B⟩;rw[A3i (P.ext fun i o g=>B.at hb g),Au];simp only[I,Ac];have hle:kM ps i (Ei ps (-1) i)<=4096:=by
    unfold kM;split
    ·exact y _ (by omega)
    ·omega
   rw[Cl,min2,Au];exact .ret ⟨rfl,B⟩
theorem DR{p:Nat}{q c:Nat->Nat}{g:Gm}(P:Fa h p ql n q c g ps)(hb:HB h)(hs:zK n ps)(hK:1000<K:=by omega):
 Ok (Im K (.ptr p 0) h) fun v h'=>v=I (Ft ps n)/\Ext h h':=by
 simp only[Im,Aa,P.list];exact Bbz hs hb P hK K 0 (by obtain⟨a,_⟩:=hs;omega) (by omega) (by unfold Od;simp)
end
section
noncomputable def Ab5(D:Nat)(g:Gm)(p bl n:Nat)(a b u:Int):List EV:=[.ptr D 0]++gL g++Be++[.ptr p 0,.slice bl 0 n n false,I a,I b,I u]
theorem Pr:Be.length=256:=by kernel_rfl
section
variable (D:Nat)(g:Gm)(p bl n:Nat)(a b u:Int)
theorem zM:(Ab5 D g p bl n a b u).length=268:=by unfold Ab5;simp[Pr,gL]
theorem Bb6:(Ab5 D g p bl n a b u)[0]? = some (.ptr D 0):=rfl
theorem Bg9:Og (Ab5 D g p bl n a b u) 1 6=some (gL g):=by kernel_rfl
theorem Bec:Og (Ab5 D g p bl n a b u) 7 256=some Be:=by kernel_rfl
theorem Biu:(Ab5 D g p bl n a b u)[263]? = some (.ptr p 0):=by kernel_rfl
theorem Bk9:(Ab5 D g p bl n a b u)[264]? = some (.slice bl 0 n n false):=by kernel_rfl
theorem Bs4:(Ab5 D g p bl n a b u)[265]? = some (I a):=by kernel_rfl
theorem Brj:(Ab5 D g p bl n a b u)[266]? = some (I b):=by kernel_rfl
theorem Bsr:(Ab5 D g p bl n a b u)[267]? = some (I u):=by kernel_rfl
end
theorem Qz{l:List EV}(f:h.get i=some (.cells l t))(hs:TT.size t=some n)(j:TT.agg t=some true)(y:l.length=n):Jk TT [.c (.ptr i 0) t] h=some (.agg l,h):=by
 have A:I6 h i 0 n=some l:=by
  unfold I6;rw[f];simp only;rw[<-nC];exact Aj y
 unfold Jk;simp only[kg,hs,A,j]
structure Acb(h:Ab)(m D p bl n:Nat)(g:Gm)(a b u:Int)(bad:Nat->Int):Prop where
 H2:h.get m=some (.cells (Ab5 D g p bl n a b u) 111)
 Azm:h.get bl=some (.cells ((List.range n).map fun z=>I (bad z)) 3)
section
variable{m D p bl:Nat}{g:Gm}{b u:Int}{bad:Nat->Int}(M:Acb h m D p bl n g a b u bad)
include M
theorem Acb.D4(k:EV->R):Hq (.ptr m 0) h k=k (.ptr D 0):=by rw[Cw M.H2 rfl,Bb6];rfl
theorem Acb.pF(k:EV->R):Pg 6 (.ptr m 1) h k=k (gV g):=by rw[Cy M.H2 rfl,Bg9];rfl
theorem Acb.table(k:EV->R):Pg 256 (.ptr m 7) h k=k Uh:=by rw[Cy M.H2 rfl,Bec];rfl
theorem Acb.Gn(k:EV->R):Hq (.ptr m 263) h k=k (.ptr p 0):=by rw[Cw M.H2 rfl,Biu];rfl
theorem Acb.VU(k:EV->R):Hq (.ptr m 264) h k=k (.slice bl 0 n n false):=by rw[Cw M.H2 rfl,Bk9];rfl
theorem Acb.oa(k:EV->R):Hq (.ptr m 265) h k=k (I a):=by rw[Cw M.H2 rfl,Bs4];rfl
theorem Acb.ob(k:EV->R):Hq (.ptr m 266) h k=k (I b):=by rw[Cw M.H2 rfl,Brj];rfl
theorem Acb.ou(k:EV->R):Hq (.ptr m 267) h k=k (I u):=by rw[Cw M.H2 rfl,Bsr];rfl
theorem Acb.ext(e:∀i o,h.get i=some o->h'.get i=some o):Acb h' m D p bl n g a b u bad:=⟨e _ _ M.H2,e _ _ M.Azm⟩
omit M in
theorem tH:TT.size 23=some 6/\TT.agg 23=some true:=⟨by kernel_rfl,by kernel_rfl⟩
omit M in
theorem VV:TT.size 96=some 256/\TT.agg 96=some true:=⟨by kernel_rfl,by kernel_rfl⟩
end
section
variable{D M:Nat}{z q:Nat->Nat}{size:Int}{Zs:Nat->Zn}
theorem VW(d:oe h D V M zl n z q size op cnt down J3 happened marks Zs):D7 K (.ptr D 0) h=some (.ptr V 0,h):=by simp only[D7,Aa,Cw d.D4 rfl]
theorem VX(d:Lv h V zl n z q size op cnt down Zs):Ni K (.ptr V 0) h=some (I n,h):=by simp only[Ni,Aa,Cw d.dev rfl,I]
theorem VY(d:Lv h V zl n z q size op cnt down Zs):Pd K (.ptr V 0) h=some (I size,h):=by simp only[Pd,Aa,Cw d.dev rfl]
end
theorem xm(v:EV):∀n,rep [v] n=List.replicate n v
 | 0=>rfl
 | n+1=>by show[v]++rep [v] n=_;rw[xm v n];rfl
theorem EU(v:EV)(n:Nat):(List.range n).map (fun _=>v)=List.replicate n v:=by
 rw[List.map_const',fJ]
theorem A30 {g:Gm}(hK:1000<K)(hb:HB h){D M:Nat}{z q:Nat->Nat}{size:Int}{Zs:Nat->Zn}(dr:oe h D V M zl n z q size op cnt down J3 happened marks Zs):
 Ok (sc K (.ptr D 0) (gV g) Uh h) fun v h'=>Ext h h'/\HB h'/\if rtB g=true/\g.D*g.Z=n/\g.S=size then
  ∃m p bl ql q c,v=.tuple [.ptr m 0,I 0]/\Acb h' m D p bl n g (-1) (-1) 0 (fun _=>0)/\Fa h' p ql g.D.toNat q c g (fun _=>[])/\(h.next<=m/\h.next<=bl)/\h.next<=p/\h.next<=ql/\∀d,d<g.D.toNat->h.next<=q d/\h.next<=c d else v=.tuple [.Ch,I 20]:=by
 have al:Sl 96 Uh (h.new (.cells (gL g) 23))=fun(k:EV->Ab->R)=>k (.ptr (h.next+1) 0) ((h.new (.cells (gL g) 23)).new (.cells Be 96)):=rfl
 simp only[sc,gV,Aa,al];have g4:((h.new (.cells (gL g) 23)).new (.cells Be 96)).get h.next=some (.cells (gL g) 23):=by rw[Ay _ (aO _)];exact Ad _ _
 have g5:((h.new (.cells (gL g) 23)).new (.cells Be 96)).get (h.next+1)=some (.cells Be 96):=Ad _ _;have J:Ext h ((h.new (.cells (gL g) 23)).new (.cells Be 96)):=(Av.new _ _).Da _;have n1:((h.new (.cells (gL g) 23)).new (.cells Be 96)).next=h.next+2:=rfl
 generalize (h.new (.cells (gL g) 23)).new (.cells Be 96)=h1 at g4 g5 J n1⊢;have E:=J.hb hb;simp only[Cy g4 rfl,Aj (show(gL g).length=6 from rfl),Aa];cases hr:rtB g with
 | false=>
  refine(A8t hr h1).Am ?_;rintro _ h2 ⟨rfl,C⟩;simp only[Aa,I,Ac,show ¬((20:Int)=0) by decide,aR,aC,uk,Qv];exact .ret ⟨J.trans C,C.hb E,rfl⟩
 | true=>
  have s:=Ja hr;have:=s.d0;have:=s.d1;have:=s.z0;have:=s.z1;obtain⟨m0,m1⟩:=Q6 (a:=g.D) (b:=g.Z) (A:=8) (B:=64);refine(A51 hr hK E).Am ?_;rintro _ h2 ⟨p,ql,qq,c,rfl,C,j,P,nw⟩;have k2:∀i o,h.get i=some o->h2.get i=some o:=fun i o g=>C.at E (J.at hb g)
  have l4:h.next<h2.next:=by have:=C.next;omega
  have l5:h.next+1<h2.next:=by have:=C.next;omega
  have X:=C.at E g4;have aw:=C.at E g5;simp only[Aa,I,Ac,aB,aA];refine Ok.bE (P:=fun v h3=>v=.ptr V 0/\Ext h2.lift h3) ⟨_,_,VW ((dr.ext k2).ext fun i o g=>by rw[Bx];exact g),rfl,Av.refl _⟩ (fun _ _ p=>p.2) ?_;rintro _ _ h3 ⟨rfl,_⟩ _ x3;have Y:=x3.hb j;have k3:∀i o,h.get i=some o->h3.get i=some o:=fun i o g=>x3.at j (k2 i o g)
  refine Ok.bE (P:=fun v h4=>v=I n/\Ext h3.lift h4) ⟨_,_,VX ((dr.dev.ext k3).ext fun i o g=>by rw[Bx];exact g),rfl,Av.refl _⟩ (fun _ _ p=>p.2) ?_;rintro _ _ h4 ⟨rfl,_⟩ _ x4;have aa:=x4.hb Y;have k4:∀i o,h.get i=some o->h4.get i=some o:=fun i o g=>x4.at Y (k3 i o g)
  have ab:Ext h2 h4:=x3.trans x4;have az:=ab.at j X;simp only[Aa,As,Cp l4,Cy az rfl,Aj (show(gL g).length=6 from rfl)];refine Ok.bE (P:=fun v W=>v=I (g.D*g.Z)/\Ext h4.lift W) ⟨_,_,Nj s _,rfl,Av.new _ _⟩ (fun _ _ p=>p.2) ?_;rintro _ _ W ⟨rfl,_⟩ _ x5;have ad:=x5.hb aa;have k5:∀i o,h.get i=some o->W.get i=some o:=fun i o g=>x5.at aa (k4 i o g)
  simp only[I,Ac,uk];have ae:Ext h2 W:=ab.trans x5;by_cases hn:(n:Int)=g.D*g.Z
  ·simp only[hn,aB,aA,Aa,Ac]
   refine Ok.bE (P:=fun v h6=>v=.ptr V 0/\Ext W.lift h6) ⟨_,_,VW ((dr.ext k5).ext fun i o g=>by rw[Bx];exact g),rfl,Av.refl _⟩ (fun _ _ p=>p.2) ?_;rintro _ _ h6 ⟨rfl,_⟩ _ x6;have a2:=x6.hb ad;have k6:∀i o,h.get i=some o->h6.get i=some o:=fun i o g=>x6.at ad (k5 i o g)
   refine Ok.bE (P:=fun v O=>v=I size/\Ext h6.lift O) ⟨_,_,VY ((dr.dev.ext k6).ext fun i o g=>by rw[Bx];exact g),rfl,Av.refl _⟩ (fun _ _ p=>p.2) ?_;rintro _ _ O ⟨rfl,_⟩ _ x7;have a3:=x7.hb a2;have y:Ext h2 O:=ae.trans (x6.trans x7);have af:=y.at j X;simp only[Aa,As,Cp l4,Cw af rfl,gL,I,Ac];by_cases hs:size=g.S
   ·subst hs
    simp only[aB,aA,Qv,GH,Aa];have a4:=y.at j aw;have a5:h.next<O.next:=aN l4 y.next
    have a6:h.next+1<O.next:=aN l5 y.next
    simp only[Aa,As,Cp a5,Cp a6,Cy af rfl,Cy a4 rfl,Aj (show(gL g).length=6 from rfl),Aj Pr];refine Ok.bE (P:=fun v f=>v=I (g.D*g.Z)/\Ext O.lift f) ⟨_,_,Nj s _,rfl,Av.new _ _⟩ (fun _ _ p=>p.2) ?_;rintro _ _ f ⟨rfl,_⟩ _ x8;have bx:=x8.hb a3;have U:Ext h2 f:=y.trans x8;simp only[Aa,As,I];rw[<-hn];have a7:Vl [.int .i64 0] 3 (.int .i64 (n:Int)) (.int .i64 (n:Int)) f=some (.slice f.next 0 n n false,f.new (.cells (rep [.int .i64 0] n) 3)):=by
     show Bb (Nat.ble n n) (Bb (Nat.ble n 65536) _ none) none=_;rw[aQ (aE n),Ak,aQ (by omega),Ak]
    rw[a7,Au,Ax (l:=Ab5 D g p f.next n (-1) (-1) 0) (by kernel_rfl)];simp only[Aa,As];have ag:Ext f ((f.new (.cells (rep [.int .i64 0] n) 3)).new (.cells (Ab5 D g p f.next n (-1) (-1) 0) 111)):=(Av.new _ _).Da _;have L:Ext h ((f.new (.cells (rep [.int .i64 0] n) 3)).new (.cells (Ab5 D g p f.next n (-1) (-1) 0) 111)):=(J.trans C).trans (U.trans ag);refine .ret ⟨L,L.hb hb,?_⟩;rw[aI (by first|exact⟨rfl,hn.symm,rfl⟩|simp[hn]|simp)];refine⟨f.next+1,p,f.next,ql,qq,c,rfl,⟨Ad _ _,?_⟩,P.ext fun i o g=>Ext.at (U.trans ag) j g,?_⟩
    ·rw[Ay _ (aO _),Ad,xm,EU]
    ·have t1:=J.next
     have t2:=C.next
     have t3:=U.next
     exact⟨⟨by omega,by omega⟩,by omega,by omega,fun d hd=>by have:=nw.2.2 d hd;omega⟩
   ·have ah:¬size=g.S:=hs
    simp only[ah,aR,aC,Qv,Aa];have L:Ext h O:=(J.trans C).trans y;refine .ret ⟨L,L.hb hb,?_⟩;rw[aG (fun x=>ah x.2.2.symm)]
  ·simp only[hn,aR,aC,Aa,Ac,Qv]
   have L:Ext h W:=(J.trans C).trans ae;refine .ret ⟨L,L.hb hb,?_⟩;rw[aG (fun x=>hn x.2.1.symm)]
end
section
section
variable{m D p bl:Nat}{g:Gm}{b u:Int}{bad:Nat->Int}(M:Acb h m D p bl n g a b u bad)
include M
theorem Yl:Cs K (.ptr m 0) h=some (.ptr p 0,h):=by simp only[Cs,Aa,M.Gn]
theorem Vd:Bu K (.ptr m 0) h=some (.ptr D 0,h):=by simp only[Bu,Aa,M.D4]
theorem A0m:Ly K (.ptr m 0) h=some (.tuple [I a,I b,I u],h):=by simp only[Ly,Aa,M.oa,M.ob,M.ou]
theorem A1z(hb:HB h):Ok (Ce K (.ptr m 0) h) fun v h'=>v=gV g/\Ext h h':=by
 simp only[Ce,Aa];have f:Acb (h.new (.cells [.int .i64 0,.int .i64 0,.int .i64 0,.int .i64 0,.int .i64 0,.int .i64 0] 23)) m D p bl n g a b u bad:=M.ext fun i o g=>Ext.at (Av.new h _) hb g
 rw[f.pF];refine Ok.st (gL g) (Ad _ _) rfl rfl rfl ?_;rw[Qz (Ae _ _ _) tH.1 tH.2 rfl];exact .ret ⟨rfl,(Av.new h _:Ext _ _).Ar (.inr (aE _)) (aO _) _⟩
theorem CF(hb:HB h):Ok (Gj K (.ptr m 0) h) fun v h'=>v=Uh/\Ext h h':=by
 simp only[Gj,Aa];have f:Acb (h.new (.cells (List.replicate 256 (.int .u32 0)) 96)) m D p bl n g a b u bad:=M.ext fun i o g=>Ext.at (Av.new h _) hb g
 rw[f.table];refine Ok.st Be (Ad _ _) rfl (by rw[show EV.cells Uh=Be from rfl,Bh,Pr]) (by rw[show EV.cells Uh=Be from rfl];exact Bn (by rw[Pr];simp)) ?_;rw[Qz (Ae _ _ _) VV.1 VV.2 Pr];exact .ret ⟨rfl,(Av.new h _:Ext _ _).Ar (.inr (aE _)) (aO _) _⟩
end
end
section
section
variable{q c:Nat}(hq:h.get q=some (.cells [.chan c] 176))(hc:h.get c=some (.chan cap (xs.map I)))
include hq hc
theorem zN(x:Int)(f:xs.length<cap):Gx K (.ptr q 0) (I x) h=some (I 0,h.put c (.chan cap ((xs++[x]).map I))):=by
 have hs:oS (.chan c) (I x) h=some (.tuple [.int .i64 0,.bool false],h.put c (.chan cap ((xs++[x]).map I))):=by
  unfold oS;simp only[hc,Ye,bh];rw[aQ f,Ak,cR];rfl
 simp only[Gx,Aa,Cw hq rfl,hs,Ac,aC]
theorem Bsw(x:Int)(f:cap<=xs.length):Gx K (.ptr q 0) (I x) h=some (I 17,h):=by
 have hs:oS (.chan c) (I x) h=some (.tuple [.int .i64 (-1),.bool false],h):=by
  unfold oS;simp only[hc,Ye,bh];rw[show Nat.ble (Nat.succ xs.length) cap=false from by
   cases hb:Nat.ble (Nat.succ xs.length) cap with
   | false=>rfl
   | true=>have:=bL hb;omega,Bm]
 simp only[Gx,Aa,Cw hq rfl,hs,Ac,show ¬((-1:Int)=0) by decide,aA]
theorem take_cons {x:Int}{r:List Int}(f:xs=x::r):Ge K (.ptr q 0) h=some (.tuple [I x,I 0],h.put c (.chan cap (r.map I))):=by
 subst f;have hs:oU (.int .i64 0) (.chan c) h=some (.tuple [.int .i64 0,.bool true,I x],h.put c (.chan cap (r.map I))):=by
  unfold oU;simp only[hc,dQ]
 simp only[Ge,Aa,Cw hq rfl,hs,Ac,aC]
theorem take_nil(f:xs = []):Ge K (.ptr q 0) h=some (.tuple [I 0,I 15],h):=by
 subst f;have hs:oU (.int .i64 0) (.chan c) h=some (.tuple [.int .i64 (-1),.bool false,.int .i64 0],h):=by
  unfold oU;simp only[hc,List.map_nil]
 simp only[Ge,Aa,Cw hq rfl,hs,Ac,show ¬((-1:Int)=0) by decide,aA]
end
structure Listed(h0 h:Ab)(v:EV)(c cap:Nat)(xs:List Int)(q':Nat):Prop where
 row:Cd h v q' 3 1 xs.length (xs.map I)
 new:0<xs.length->h0.next<=q'
 chan:h.get c=some (.chan cap (xs.map I))
 chg:Av (fun i=>i=c) h0 h
 hb:HB h
theorem Bjv{q c:Nat}(A:h0.get q=some (.cells [.chan c] 176))(f:∃b,h0.get c=some (.chan cap b))(O:xs.length<=cap)(U:cap<=4096)(iE:HB h0):∀(m j:Nat) (h:Ab) (s:EV) (q':Nat),xs.length-j<m->j<=xs.length ->
 Cd h s q' 3 1 xs.length (xs.map I)->(0<xs.length->h0.next<=q')->h.get c=some (.chan cap ((xs.take j).map I))->Av (fun i=>i=c) h0 h->HB h ->
 Ok (Ih K m (.ptr q 0) s s (I xs.length) (I j) h) fun v h'=>∃q',Listed h0 h' v c cap xs q':=by
 obtain⟨b0,f⟩:=f;have J:q≠c:=Az A f (by simp);have lc:=iE _ _ f;intro m;induction m with
 | zero=>intro j h s q' hm;omega
 | succ m W=>
  intro j h s q' hm hj row new hc x hb;simp only[Ih,I,Ac,Aa];by_cases B:(j:Int)<xs.length
  ·have y:j<xs.length:=by omega
   have hq:h.get q=some (.cells [.chan c] 176):=Av.at x iE A J;have C:=row.block (by omega);simp only[B,aC,Aa,JS];rw[row.ix y,Cw C rfl,bk,bD,aD y,eI,G2,zN hq hc xs[j] (by rw[bZ];omega),Au];simp only[JR,Ac];rw[Cl];have e:xs.take j++[xs[j]]=xs.take (j+1):=(cD y).symm;rw[e];have E:c<h.next:=aN lc x.next
   have L:q'≠c:=Az C hc (by simp);exact W (j+1) _ s q' (by omega) (by omega) (row.frame fun _=>Af _ (cY L)) new (Ae _ _ _) (x.Ar (.inl rfl) E _) (hb.put E _)
  ·have:j=xs.length:=by omega
   subst this;simp only[B,aA,Aa,Uu];rw[bW]at hc;exact .ret ⟨q',row,new,hc,x,hb⟩
theorem Biy{q c:Nat}(B:h0.get q=some (.cells [.chan c] 176))(f:∃b,h0.get c=some (.chan cap b))(C:xs.length<=cap)(U:cap<=4096)(iE:HB h0)(hK:5000<K):∀(m j:Nat) (h:Ab) (s:EV) (q':Nat),xs.length-j<m->j<=xs.length ->
 Cd h s q' 3 1 j ((xs.take j).map I)->(0<j->h0.next<=q')->h.get c=some (.chan cap ((xs.drop j).map I))->Av (fun i=>i=c) h0 h->HB h ->
 Ok (Ia K m (.ptr q 0) s (I xs.length) (I j) h) fun v h'=>∃q',Listed h0 h' v c cap xs q':=by
 have E:=f;obtain⟨b0,f⟩:=f;have W:q≠c:=Az B f (by simp);have lc:=iE _ _ f;intro m;induction m with
 | zero=>intro j h s q' hm;omega
 | succ m ih=>
  intro j h s q' hm hj row new hc x hb;simp only[Ia,I,Ac,Aa];by_cases J:(j:Int)<xs.length
  ·have L:j<xs.length:=by omega
   have hq:h.get q=some (.cells [.chan c] 176):=Av.at x iE B W;have e:xs.drop j=xs[j]::xs.drop (j+1):=dU L;have y:c<h.next:=aN lc x.next
   simp only[J,aC,Aa,JU];rw[take_cons hq hc e];simp only[Aa,I,Ac,aC];have O:Cd (h.put c (.chan cap ((xs.drop (j+1)).map I))) s q' 3 1 j ((xs.take j).map I):=row.frame fun X=>Af _ (cY (Az (row.block X) hc (by simp)))
   refine Md (z:=[.int .i64 0]) O (hb.put y _) rfl rfl rfl (by omega) (by omega) ?_;intro h2 A n2 c2;have Y:Av (fun i=>i=c) h0 (h.put c (.chan cap ((xs.drop (j+1)).map I))):=x.Ar (.inl rfl) y _;have x3:Av (fun i=>i=c) h0 h2:=Y.then c2 fun i hi X=>by have:=new hi.1;omega
   simp only[JT,Ac];rw[Cl];have e2:(xs.take j).map I++EV.cells (.int .i64 xs[j])=(xs.take (j+1)).map I:=by
    rw[cD L,cR];rfl
   rw[e2]at A;refine ih (j+1) _ _ _ (by omega) (by omega) A (fun _=>by have:=Y.next;omega) ?_ x3 (c2.hb (hb.put y _));rw[c2.get _ (by rw[Ab.Qr];exact y) (fun hx=>by
    have:=row.block hx.1;exact Az this hc (by simp) hx.2.symm)]
   exact Ae _ _ _
  ·have:j=xs.length:=by omega
   subst this;rw[bW]at row;simp only[J,aA,Aa,Um];rw[row.Hg];rw[List.drop_length]at hc;exact Bjv B E C U iE K 0 h s q' (by omega) (by omega) row new hc x hb
theorem A3k{q c:Nat}(j:h0.get q=some (.cells [.chan c] 176))(f:h0.get c=some (.chan cap (xs.map I)))(y:xs.length<=cap)(A:cap<=4096)(iE:HB h0)(hK:5000<K):
 Ok (Tf K (.ptr q 0) h0) fun v h'=>∃q',Listed h0 h' v c cap xs q':=by
 simp only[Tf,dr];rw[VT j f,Au,bh];exact Biy j ⟨_,f⟩ y A iE hK K 0 h0 .Aq 0 (by omega) (by omega) (.nil _ _ _ _) (fun x=>absurd x (bN _)) f (Av.refl _) iE
theorem Listed.same{c:Nat}(l:Listed h0 h v c cap xs q')(hc:h0.get c=some (.chan cap (xs.map I))):∀i,i<h0.next->h.get i=h0.get i:=by
 intro i f;by_cases e:i=c
 ·subst e;rw[l.chan,hc]
 ·exact l.chg.get i f e
end
section
theorem Bt8:(Fk TT 29 0).2.1 = [9,10]:=by kernel_rfl
theorem Btk:(Fk TT 113 0).2.1 = [19,20]:=by kernel_rfl
section
variable (H:Bv disp)
include H
theorem Bjq(he:1<=e){z x i:Int}(E:h.get l0=some (Aw TT 29 14 0 tm .ready none d0))(t3:tmp tm 3=.ptr b3 0)(t4:tmp tm 4=.ptr b4 0)(X:h.get b3=some (.cells [I z] 3))(O:h.get b4=some (.cells [.bool false] 4))(hb:HB h):
 ∃h',Ag TT disp K (e+1) true l0 [I i,I x] h=some (.bool (decide (¬x=z)),h')/\h'.get l0=some (Aw TT 29 14 0 tm (if x=z then .done else .ready) (if x=z then some .ret else none) d0)/\h'.get b4=some (.cells [.bool (decide (x=z))] 4)/\Av (fun j=>j=l0\/j=b4) h h'/\HB h':=by
 have y:=E;unfold Aw at y;rw[Bt8]at y;rw[Ao6 H he tm h (I i) (I x) y,t3,t4];have J:=hb _ _ E;have aa:=hb _ _ O;have U:l0≠b3:=Az E X (by simp[Aw]);have f:l0≠b4:=Az E O (by simp[Aw]);simp only[IV,Z8 E,IU,dr];have L:(h.put l0 (Aw TT 29 14 0 tm .busy none d0)).get b3=some (.cells [I z] 3):=by rw[Af _ U];exact X
 have A:(h.put l0 (Aw TT 29 14 0 tm .busy none d0)).get b4=some (.cells [.bool false] 4):=by rw[Af _ f];exact O
 have B:(h.put l0 (Aw TT 29 14 0 tm .busy none d0)).get l0=some (Aw TT 29 14 0 tm .busy none d0):=Ae _ _ _;have W:Av (fun j=>j=l0\/j=b4) h (h.put l0 (Aw TT 29 14 0 tm .busy none d0)):=(Av.refl h).Ar (.inl (.inl rfl)) J _;have C:HB (h.put l0 (Aw TT 29 14 0 tm .busy none d0)):=hb.put J _;have n1:(h.put l0 (Aw TT 29 14 0 tm .busy none d0)).next=h.next:=rfl
 generalize h.put l0 (Aw TT 29 14 0 tm .busy none d0)=h1 at L A B W C n1⊢;simp only[Cw L rfl,Aa,I,Ac];by_cases Y:x=z
 ·simp only[Y,aC,Aa,aB,aA,bJ]
  rw[mV (o:=0) (n:=1) (v:=.bool true) (l':=[.bool true]) A rfl rfl rfl,Ri (by rw[Af _ (cY f)];exact B)];exact⟨_,rfl,Ae _ _ _,by rw[Af _ f];exact Ae _ _ _,(W.Ar (.inl (.inr rfl)) (by omega) _).Ar (.inl (.inl rfl)) (by rw[Ab.Qr];omega) _,(C.put (by omega) _).put (by rw[Ab.Qr];omega) _⟩
 ·simp only[Y,aA,Aa,aR,aC,ak]
  rw[Ri B];exact⟨_,rfl,Ae _ _ _,by rw[Af _ f];exact A,W.Ar (.inl (.inl rfl)) (by omega) _,C.put (by omega) _⟩
theorem Biw(he:2<=e){l1 d1 b5:Nat}{z x i dd:Int}(hg:h.get l0=some (Aw TT 29 14 0 tm .ready none d0))(t3:tmp tm 3=.ptr b3 0)(t4:tmp tm 4=.ptr b4 0)(g3:h.get b3=some (.cells [I z] 3))(g4:h.get b4=some (.cells [.bool false] 4))
 (f:h.get l1=some (Aw TT 113 27 0 iT .ready none d1)) (u2:tmp iT 2=.ptr b2 0) (u3:tmp iT 3=.ptr b5 0) (g2:h.get b2=some (.cells [.Vv l0] 153)) (g5:h.get b5=some (.cells [I dd] 3)) (hb:HB h) :
 ∃h',Ag TT disp K (e+1) true l1 [I i,I x] h=some (.bool (decide (¬x=z)),h')/\h'.get l0=some (Aw TT 29 14 0 tm (if x=z then .done else .ready) (if x=z then some .ret else none) d0)/\h'.get l1=some (Aw TT 113 27 0 iT (if x=z then .done else .ready) (if x=z then some .ret else none) d1) /\
  h'.get b4=some (.cells [.bool (decide (x=z))] 4)/\Av (fun j=>j=l0\/j=b4\/j=l1) h h'/\HB h':=by
 obtain⟨e,rfl⟩:∃k,e=k+1:=⟨e-1,by omega⟩;have C:=f;unfold Aw at C;rw[Btk]at C;rw[Ami H (by omega) iT h (I i) (I x) C,u2,u3];have O:=hb _ _ f;have E:l1≠l0:=Az f hg (by simp[Aw]);have A:∀b o,h.get b=some o->(∀st p,o≠Aw TT 113 27 0 iT st p d1)->(h.put l1 (Aw TT 113 27 0 iT .busy none d1)).get b=some o:=fun b o gb hn=>by
  rw[Af _ (Az f gb (fun x=>hn _ _ x.symm))];exact gb
 simp only[JI,Z8 f,Yt,dr];have q0:=A _ _ hg (by intros;simp[Aw]);have q2:=A _ _ g2 (by intros;simp[Aw]);have q3:=A _ _ g3 (by intros;simp[Aw]);have W:=A _ _ g4 (by intros;simp[Aw]);have q5:=A _ _ g5 (by intros;simp[Aw]);have X:(h.put l1 (Aw TT 113 27 0 iT .busy none d1)).get l1=some (Aw TT 113 27 0 iT .busy none d1):=Ae _ _ _;have x1:Av (fun j=>j=l0\/j=b4\/j=l1) h (h.put l1 (Aw TT 113 27 0 iT .busy none d1)):=(Av.refl h).Ar (.inl (.inr (.inr rfl))) O _;have J:HB (h.put l1 (Aw TT 113 27 0 iT .busy none d1)):=hb.put O _;have n1:(h.put l1 (Aw TT 113 27 0 iT .busy none d1)).next=h.next:=rfl
 generalize h.put l1 (Aw TT 113 27 0 iT .busy none d1)=h1 at q0 X q2 q3 W q5 x1 J n1⊢;simp only[Cw q2 rfl,Cw q5 rfl,Aa];have hc:T5 (Ag TT disp K (e+1) false) (Ag TT disp K (e+1) true) (.Vv l0) [I dd,I x] h1=Ag TT disp K (e+1) true l0 [I dd,I x] h1:=rfl;rw[hc];obtain⟨h2,r1,U,L,Y,r5⟩:=Bjq (K:=K) H (e:=e) (by omega) (i:=dd) (x:=x) q0 t3 t4 q3 W J;rw[r1,Au];have B:h2.get l1=some (Aw TT 113 27 0 iT .busy none d1):=Av.at Y J X (fun y=>by
  rcases y with y|y
  ·exact E y
  ·exact Az X W (by simp[Aw]) y)
 have n2:=Y.next
 have x2:Av (fun j=>j=l0\/j=b4\/j=l1) h h2:=x1.trans (Y.mono fun j hj=>hj.elim .inl (fun y=>.inr (.inl y)));by_cases hx:x=z
 ·simp only[hx,aB,aA,aC,bJ]at U L⊢
  simp only[Aa];rw[Ri B];refine⟨_,rfl,?_,Ae _ _ _,?_,x2.Ar (.inl (.inr (.inr rfl))) (by omega) _,r5.put (by omega) _⟩
  ·rw[Af _ E];exact U
  ·rw[Af _ (Az B L (by simp[Aw]))];exact L
 ·simp only[hx,aR,aA,aC,ak]at U L⊢
  simp only[Aa];rw[Ri B];refine⟨_,rfl,?_,Ae _ _ _,?_,x2.Ar (.inl (.inr (.inr rfl))) (by omega) _,r5.put (by omega) _⟩
  ·rw[Af _ E];exact U
  ·rw[Af _ (Az B L (by simp[Aw]))];exact L
end
end
section
structure Bcw(h:Ab)(l0 d0:Nat)(tm:Ba)(b3 b4:Nat)(z:Int)(b2:Nat)(found:Bool):Prop where
 lp:h.get l0=some (Aw TT 29 14 0 tm (if found then .done else .ready) (if found then some .ret else none) d0)
 c3:h.get b3=some (.cells [I z] 3)
 c4:h.get b4=some (.cells [.bool found] 4)
 c2:h.get b2=some (.cells [.Vv l0] 153)
 hb:HB h
structure zO(tm:Ba)(b3 b4:Nat):Prop where
 t3:tmp tm 3=.ptr b3 0
 t4:tmp tm 4=.ptr b4 0
section
variable (H:Bv disp){z:Int}(T0:zO tm b3 b4){l1 d1:Nat}{b5:Nat}{dd:Int}(u2:tmp iT 2=.ptr b2 0)(u3:tmp iT 3=.ptr b5 0)
include H T0 u2 u3
theorem Bhc(he:3<=e)(hn:xs.length<=4096):∀(m i:Nat) (h:Ab) (s:EV) (q':Nat),xs.length-i<m->i<=xs.length->Bcw h l0 d0 tm b3 b4 z b2 false->h.get l1=some (Aw TT 113 27 0 iT .ready none d1)->h.get b5=some (.cells [I dd] 3) ->
 Cd h s q' 3 1 xs.length (xs.map I)->(xs.take i).contains z=false ->
 Ok (J2 (Ag TT disp K e false) (Ag TT disp K e true) K m (.Vv l1) s (I xs.length) (I i) h) fun v h'=>v=.tuple []/\Bcw h' l0 d0 tm b3 b4 z b2 (xs.contains z)/\h'.get l1=some (Aw TT 113 27 0 iT (if xs.contains z then .done else .ready) (if xs.contains z then some .ret else none) d1)/\Av (fun j=>j=l0\/j=b4\/j=l1) h h':=by
 intro m;induction m with
 | zero=>intro i h s q' hm;omega
 | succ m ih=>
  intro i h s q' hm hi L g1 g5 row f;simp only[J2,I,Ac,Aa];by_cases O:(i:Int)<xs.length
  ·have A:i<xs.length:=by omega
   have B:=row.block (by omega);simp only[O,aC,Aa,LF];rw[row.ix A,Cw B rfl,bk,bD,aD A,eI,G2];obtain⟨e,rfl⟩:∃k,e=k+1:=⟨e-1,by omega⟩;have hc:T5 (Ag TT disp K (e+1) false) (Ag TT disp K (e+1) true) (.Vv l1) [I i,I xs[i]] h=Ag TT disp K (e+1) true l1 [I i,I xs[i]] h:=rfl;obtain⟨h2,r1,X,Y,r4,r5,r6⟩:=Biw (K:=K) H (e:=e) (by omega) (i:=i) (x:=xs[i]) L.lp T0.t3 T0.t4 L.c3 L.c4 g1 u2 u3 L.c2 g5 L.hb;have ae:∀k:EV->Ab->R,Am (T5 (Ag TT disp K (e+1) false) (Ag TT disp K (e+1) true) (.Vv l1) [.int .i64 (i:Int),I xs[i]] h) k=k (.bool (decide (¬xs[i]=z))) h2:=fun k=>by
    have:T5 (Ag TT disp K (e+1) false) (Ag TT disp K (e+1) true) (.Vv l1) [.int .i64 (i:Int),I xs[i]] h=some (.bool (decide (¬xs[i]=z)),h2):=hc.trans r1;rw[this,Au]
   rw[ae];have Gw:∀b o,h.get b=some o->(∀st p,o≠Aw TT 29 14 0 tm st p d0)->(∀st p,o≠Aw TT 113 27 0 iT st p d1)->(∀v,o≠.cells [v] 4)->h2.get b=some o:=fun b o C n0 n1 n4=>Av.at r5 L.hb C fun y=>by
    rcases y with rfl|rfl|rfl
    ·rw[L.lp]at C;cases C;exact n0 _ _ rfl
    ·rw[L.c4]at C;cases C;exact n4 _ rfl
    ·rw[g1]at C;cases C;exact n1 _ _ rfl
   have k3:=Gw _ _ L.c3 (by intros;simp[Aw]) (by intros;simp[Aw]) (by intros;simp);have k2:=Gw _ _ L.c2 (by intros;simp[Aw]) (by intros;simp[Aw]) (by intros;simp);have k5:=Gw _ _ g5 (by intros;simp[Aw]) (by intros;simp[Aw]) (by intros;simp);by_cases J:xs[i]=z
   ·have U:xs.contains z=true:=by
     rw[List.contains_iff_mem,<-J];exact bH A
    simp only[J,bJ,aC]at X Y r4;simp only[J,aB,aA,Aa];exact .ret ⟨rfl,by rw[U];exact⟨X,k3,r4,k2,r6⟩,by rw[U];exact Y,r5⟩
   ·simp only[J,ak,aA]at X Y r4
    simp only[J,aR,aC,Aa,LD,Ac];rw[Cl];have E:Cd h2 s q' 3 1 xs.length (xs.map I):=row.frame fun _=>by
     rw[Gw _ _ B (by intros;simp[Aw]) (by intros;simp[Aw]) (by intros;simp),B]
    have W:(xs.take (i+1)).contains z=false:=by
     rw[cD A];simp only[List.contains_eq_mem,bR,aP,cr]at f⊢;intro y;rcases y with y|y
     ·exact f y
     ·exact J y.symm
    refine(ih (i+1) h2 s q' (by omega) (by omega) ⟨X,k3,r4,k2,r6⟩ Y k5 E W).mono ?_;rintro v h' ⟨a1,a2,a3,a4⟩;exact⟨a1,a2,a3,r5.trans a4⟩
  ·have:i=xs.length:=by omega
   subst this;simp only[O,aA,Aa];rw[bW]at f;exact .ret ⟨rfl,by rw[f];exact L,by rw[f];exact g1,Av.refl _⟩
theorem Bot(he:3<=e)(hK:5000<K){E q c:Nat}(O:h.get E=some (.cells [.ptr q 0] 124))(hq:h.get q=some (.cells [.chan c] 176))(hc:h.get c=some (.chan cap (xs.map I)))(B:xs.length<=cap)(C:cap<=4096)
 (L:Bcw h l0 d0 tm b3 b4 z b2 false) (U:h.get l1=some (Aw TT 113 27 0 iT .ready none d1)) (W:h.get b5=some (.cells [I dd] 3)) :
 Ok (Ag TT disp K (e+1) false 145 [.Vv l1,.ptr E 0] h) fun v h'=>Bcw h' l0 d0 tm b3 b4 z b2 (xs.contains z)/\h'.get l1=some (Aw TT 113 27 0 iT (if xs.contains z then .done else .ready) (if xs.contains z then some .ret else none) d1) /\
  (∀i,i<h.next->¬(i=l0\/i=b4\/i=l1)->h'.get i=h.get i)/\Av (fun j=>j=c\/j=l0\/j=b4\/j=l1) h h':=by
 rw[Aoh H (by omega)];simp only[LG,Cw O rfl,Aa];refine(A3k hq hc B C L.hb hK).Am ?_;rintro s h1 ⟨q',y⟩;rw[y.row.Hg];have same:=y.same hc;have f:∀i o,h.get i=some o->h1.get i=some o:=fun i o g=>by rw[same i (L.hb _ _ g)];exact g
 have X:Bcw h1 l0 d0 tm b3 b4 z b2 false:=⟨f _ _ L.lp,f _ _ L.c3,f _ _ L.c4,f _ _ L.c2,y.hb⟩;refine(Bhc (K:=K) H T0 u2 u3 he (by omega) K 0 h1 s q' (by omega) (by omega) X (f _ _ U) (f _ _ W) y.row (by simp)).mono ?_;rintro v h' ⟨_,Y,a3,J⟩;refine⟨Y,a3,fun i A hn=>by rw[J.get i (aN A y.chg.next) hn,same i A],?_⟩;exact(y.chg.mono fun i A=>.inl A).trans (J.mono fun i A=>.inr A)
end
end
section
def hasB(ps:Nat->List Int)(n:Nat)(z:Int):Bool:=(List.range n).any fun d=>(ps d).contains z
theorem Bhr(ps:Nat->List Int)(n:Nat)(z:Int):hasB ps (n+1) z=(hasB ps n z||(ps n).contains z):=by
 unfold hasB;rw[dE,List.any_append];simp
theorem Jf{z:Int}:hasB ps n z=true↔∃d,d<n/\z∈ps d:=by
 unfold hasB;simp
theorem Bo7{d:Nat}{z:Int}(hd:d<n)(h:(ps d).contains z=true):hasB ps n z=true:=Jf.2 ⟨d,hd,List.contains_iff_mem.1 h⟩
structure qP(h0 h:Ab)(C:Nat->Prop)(l0 d0:Nat)(tm:Ba)(b3 b4:Nat)(z:Int)(b2:Nat)(found:Bool):Prop where
 kp:Kp C h0 h
 look:Bcw h l0 d0 tm b3 b4 z b2 found
 cd:h.get d0=some (.deferred true)
 n0:h0.next<=l0
 n4:h0.next<=b4
 nd:h0.next<=d0
section
variable (H:Bv disp){p:Nat}{q c:Nat->Nat}{g:Gm}(P:Fa h0 p ql n q c g ps)(iE:HB h0)(tt:∀d,d<n->(ps d).length<=g.Z.toNat)(hZ:g.Z<=4096)(hn:n<=64)
variable{z:Int}(T0:zO tm b3 b4)
include H P iE tt hZ hn T0
theorem Blt(he:4<=e)(hK:5000<K):∀(m i:Nat) (h:Ab) (t1:Ba) (ds:List Nat),n-i<m->i<=n->qP h0 h (fun x=>∃d,d<n/\x=c d) l0 d0 tm b3 b4 z b2 false->tmp t1 2=.ptr b2 0 ->
 ds.Nodup->(∀d∈ds,h.get d=some (.deferred true)/\h0.next<=d/\d≠d0)->hasB ps i z=false ->
 Ok (Lx (Ag TT disp K e false) (Ag TT disp K e true) K m t1 (.slice ql 0 n n true) (I n) (I i) h ds) fun v h'=>qP h0 h' (fun x=>∃d,d<n/\x=c d) l0 d0 tm b3 b4 z b2 (hasB ps n z):=by
 intro m;induction m with
 | zero=>intro i h t1 ds hm;omega
 | succ m ih=>
  intro i h t1 ds hm hi M u2 ag ab ah;have fin:∀(h2:Ab) (dl:List Nat) (found:Bool),found=hasB ps n z->qP h0 h2 (fun x=>∃d,d<n/\x=c d) l0 d0 tm b3 b4 z b2 found->dl.Nodup->(∀d∈dl,h2.get d=some (.deferred true)/\h0.next<=d/\d≠d0) ->
   Ok (Fz dl h2 fun h=>some (EV.tuple [],h)) fun v h'=>qP h0 h' (fun x=>∃d,d<n/\x=c d) l0 d0 tm b3 b4 z b2 (hasB ps n z):=by
   rintro h2 dl found rfl M2 a2 U;refine Ok.unwind a2 (fun d hd=>(U d hd).1) M2.look.hb fun h3 ch bw=>.ret ?_
   have nk:∀b o,h2.get b=some o->o≠.deferred true->¬(b∈dl):=fun b o J f hb=>by rw[(U b hb).1]at J;cases J;exact f rfl
   have a:∀b o,h2.get b=some o->o≠.deferred true->h3.get b=some o:=fun b o J f=>Av.at ch M2.look.hb J (nk b o J f)
   refine⟨M2.kp.tQ ch fun i hi=>(U i hi).2.1,⟨a _ _ M2.look.lp (by simp[Aw]),a _ _ M2.look.c3 (by simp),a _ _ M2.look.c4 (by simp),a _ _ M2.look.c2 (by simp),ch.hb M2.look.hb⟩,Av.at ch M2.look.hb M2.cd (fun y=>(U _ y).2.2 rfl),M2.n0,M2.n4,M2.nd⟩
  simp only[Lx,I,Ac,Aa];by_cases ai:(i:Int)<n
  ·have A:i<n:=by omega
   have a3:∀b o,h0.get b=some o->h.get b=some o:=fun b o J=>M.kp.at iE J
   have P1:=P.ext a3;simp only[ai,aC,Aa,JG];rw[P1.rowAt.ix A,P1.og A]
   try simp only[Aa]
   refine Ok.gT (Ad _ _) rfl rfl (by show 0<1;decide) ?_;have bz:=M.kp.chg.next
   have x1:Ext h ((h.new (.cells [.int .i64 0] 3)).put h.next (.cells [EV.int .i64 (i:Int)] 3)):=(Av.new _ _:Ext h _).Ar (.inr (aE _)) (aO _) _;have g5:((h.new (.cells [.int .i64 0] 3)).put h.next (.cells [EV.int .i64 (i:Int)] 3)).get h.next=some (.cells [I i] 3):=Ae _ _ _
   simp only[List.set];generalize (h.new (.cells [.int .i64 0] 3)).put h.next (.cells [EV.int .i64 (i:Int)] 3)=h1 at x1 g5⊢
   have a6:=x1.hb M.look.hb;have b6:=x1.next
   simp only[xA,Aa];have x2:Ext h (h1.new (.cells [.ptr (q i) 0] 124)):=x1.Da _;have g6:(h1.new (.cells [.ptr (q i) 0] 124)).get h1.next=some (.cells [.ptr (q i) 0] 124):=Ad _ _
   have aj:(h1.new (.cells [.ptr (q i) 0] 124)).get h.next=some (.cells [I i] 3):=by rw[Ay _ (a6 _ _ g5)];exact g5
   have n2:h1.next<(h1.new (.cells [.ptr (q i) 0] 124)).next:=aO _
   generalize h1.new (.cells [.ptr (q i) 0] 124)=h2 at x2 g6 aj n2⊢;have a7:=x2.hb M.look.hb;generalize ae:(((((((t1.put 13 (some (EV.bool true))).put 14 (some (EV.int .i64 (i:Int)))).put 15 (some (EV.ptr ql (i*1)))).put 16 (some (EV.ptr (q i) 0))).put 3 (some (EV.ptr h.next 0))).put 4 (some (EV.ptr (q i) 0))).put 17 (some (EV.ptr (q i) 0))).put 18 (some (EV.func 145 [] [EV.ptr h1.next 0]))=t2;have v2:tmp t2 2=.ptr b2 0:=by rw[<-ae];simp only[It,reduceIte,Nat.reduceEqDiff,u2]
   have v3:tmp t2 3=.ptr h.next 0:=by rw[<-ae];simp only[It,reduceIte,Nat.reduceEqDiff]
   have a8:∀w,tmp ((t2.put 26 (some w)).put 12 (some w)) 2=.ptr b2 0:=fun w=>by simp only[It,reduceIte,Nat.reduceEqDiff,v2]
   clear ae;refine Ok.range ?_;have x3:Ext h (Cg TT 113 27 0 t2 h2):=x2.trans Jn;have ao:=x3.hb M.look.hb;have C:∀b o,h.get b=some o->(Cg TT 113 27 0 t2 h2).get b=some o:=fun b o J=>x3.at M.look.hb J
   have Y:∀b o,h2.get b=some o->(Cg TT 113 27 0 t2 h2).get b=some o:=fun b o J=>Ext.at Jn a7 J
   have L3:Bcw (Cg TT 113 27 0 t2 h2) l0 d0 tm b3 b4 z b2 false:=⟨C _ _ M.look.lp,C _ _ M.look.c3,C _ _ M.look.c4,C _ _ M.look.c2,ao⟩;have P3:=P1.ext C;obtain⟨e,rfl⟩:∃k,e=k+1:=⟨e-1,by omega⟩;refine(Bot (K:=K) H T0 (l1:=h2.next+1) (d1:=h2.next) v2 v3 (e:=e) (by omega) hK (Y _ _ g6) (P3.que i A) (P3.chan i A) (tt i A) (by omega) L3 Jy (Y _ _ aj)).mono ?_;rintro v h4 ⟨L4,E,B,au⟩;have ca:=au.next
   have cc:h2.next+1<(Cg TT 113 27 0 t2 h2).next:=by rw[A0i];omega
   have a9:Kp (fun x=>∃d,d<n/\x=c d) h0 h4:=by
    refine⟨(M.kp.chg.trans (Ext.to x3)).then au ?_,fun j hj=>?_⟩
    ·rintro j (rfl|rfl|rfl|rfl) hl
     ·exact⟨i,A,rfl⟩
     ·have:=M.n0;omega
     ·have:=M.n4;omega
     ·have:=x2.next;omega
    ·have bb:j<(Cg TT 113 27 0 t2 h2).next:=by have:=x3.next;omega
     rw[B j bb (by rintro(rfl|rfl|rfl)<;>(have:=M.n0;have:=M.n4;have:=x2.next;omega)),x3.get j (by omega) id];exact M.kp.same j hj
   have bf:h4.get h2.next=some (.deferred true):=by
    rw[B _ (by omega) ?_]
    ·exact Lm
    ·rintro(y|y|y)
     ·have:=M.look.hb _ _ M.look.lp;omega
     ·have:=M.look.hb _ _ M.look.c4;omega
     ·omega
   have L:∀d,h.get d=some (.deferred true)->h4.get d=some (.deferred true):=fun d gd=>by
    have aw:=C _ _ gd;rw[B d (ao _ _ aw) ?_]
    ·exact aw
    ·rintro(rfl|rfl|rfl)
     ·rw[M.look.lp]at gd;cases gd
     ·rw[M.look.c4]at gd;cases gd
     ·have:=M.look.hb _ _ gd;omega
   have bj:∀o,h4.get (h2.next+1)=some o->∀b o',h4.get b=some o'->(∀st p,o'≠Aw TT 113 27 0 t2 st p h2.next)->b≠h2.next+1:=by
    intro o ho b o' O f e';subst e';rw[E]at O;cases O;exact f _ _ rfl
   have W:∀(p5:Option Code),qP h0 (h4.put (h2.next+1) (Aw TT 113 27 0 t2 .exhausted p5 h2.next)) (fun x=>∃d,d<n/\x=c d) l0 d0 tm b3 b4 z b2 ((ps i).contains z):=by
    intro p5;have ax:h2.next+1<h4.next:=by omega
    have pn:∀b o',h4.get b=some o'->(∀st p,o'≠Aw TT 113 27 0 t2 st p h2.next)->(h4.put (h2.next+1) (Aw TT 113 27 0 t2 .exhausted p5 h2.next)).get b=some o':=fun b o' O f=>by
     rw[Af _ (cY (bj _ E b o' O f))];exact O
    refine⟨a9.Ar (by have:=x2.next;omega) ax _,⟨pn _ _ L4.lp (by intros;simp[Aw]),pn _ _ L4.c3 (by intros;simp[Aw]),pn _ _ L4.c4 (by intros;simp[Aw]),pn _ _ L4.c2 (by intros;simp[Aw]),L4.hb.put ax _⟩,pn _ _ (L _ M.cd) (by intros;simp[Aw]),M.n0,M.n4,M.nd⟩
   have aa:∀(p5:Option Code),∀d∈h2.next::ds,(h4.put (h2.next+1) (Aw TT 113 27 0 t2 .exhausted p5 h2.next)).get d=some (.deferred true)/\h0.next<=d/\d≠d0:=by
    intro p5 d hd;rcases bX.1 hd with rfl|hd
    ·exact⟨by rw[Af _];exact bf,by have:=x2.next;omega,by have:=M.look.hb _ _ M.cd;omega⟩
    ·obtain⟨a,b,c'⟩:=ab d hd
     exact⟨by rw[Af _ (by have:=M.look.hb _ _ a;omega)];exact L _ a,b,c'⟩
   have az:(h2.next::ds).Nodup:=cK.2 ⟨fun hd=>by have:=M.look.hb _ _ (ab _ hd).1;omega,ag⟩;cases X:(ps i).contains z with
   | true=>
    rw[X]at E W;refine .inr ⟨E,?_⟩;exact fin _ _ true (Bo7 A X).symm (W _) az (aa _)
   | false=>
    rw[X]at E W;refine .inl ⟨E,?_⟩;simp only[Pj,Ac];rw[Cl];exact ih (i+1) _ _ _ (by omega) (by omega) (W _) (a8 _) az (aa _) (by rw[Bhr,ah,X];rfl)
  ·have:i=n:=by omega
   subst this;simp only[ai,aA,Aa];exact fin h ds false ah.symm M ag ab
end
section
variable (H:Bv disp){p:Nat}{q c:Nat->Nat}{g:Gm}(P:Fa h0 p ql n q c g ps)(iE:HB h0)(tt:∀d,d<n->(ps d).length<=g.Z.toNat)(hZ:g.Z<=4096)(hn:n<=64)
include H P iE tt hZ hn
theorem DQ {d:Nat}(hd:7<=d)(hK:5000<K)(z:Int):Ok (Ag TT disp K d false 29 [.ptr p 0,I z] h0) fun v h'=>v=.bool (hasB ps n z)/\Kp (fun x=>∃d,d<n/\x=c d) h0 h'/\HB h':=by
 obtain⟨e,rfl⟩:∃k,d=k+2:=⟨d-2,by omega⟩;rw[Awi H (by omega)];simp only[IQ,I,Aa,xy];have x1:Ext h0 (((h0.new (.cells [.int .i64 z] 3)).new (.cells [.bool false] 4)).new (.cells [.ptr p 0] 57)):=((Av.new _ _).Da _).Da _;have n1:(((h0.new (.cells [.int .i64 z] 3)).new (.cells [.bool false] 4)).new (.cells [.ptr p 0] 57)).next=h0.next+3:=rfl
 have B:(((h0.new (.cells [.int .i64 z] 3)).new (.cells [.bool false] 4)).new (.cells [.ptr p 0] 57)).get (h0.next+2)=some (.cells [.ptr p 0] 57):=Ad _ _;have g4:(((h0.new (.cells [.int .i64 z] 3)).new (.cells [.bool false] 4)).new (.cells [.ptr p 0] 57)).get (h0.next+1)=some (.cells [.bool false] 4):=by
  rw[Ay _ (aO _)];exact Ad _ _
 have g3:(((h0.new (.cells [.int .i64 z] 3)).new (.cells [.bool false] 4)).new (.cells [.ptr p 0] 57)).get h0.next=some (.cells [I z] 3):=by
  rw[Ay _ (show h0.next<h0.next+2 by omega),Ay _ (show h0.next<h0.next+1 by omega)];exact Ad _ _
 have ah:((h0.new (.cells [.int .i64 z] 3)).new (.cells [.bool false] 4)).next=h0.next+2:=rfl
 have ai:(h0.new (.cells [.int .i64 z] 3)).next=h0.next+1:=rfl
 rw[ah,ai];generalize ((h0.new (.cells [.int .i64 z] 3)).new (.cells [.bool false] 4)).new (.cells [.ptr p 0] 57)=h1 at x1 n1 B g4 g3⊢;have O:=x1.hb iE;generalize U:(((((Tr.nil.put 0 (some (EV.ptr p 0))).put 1 (some (EV.int .i64 z))).put 3 (some (EV.ptr h0.next 0))).put 4 (some (EV.ptr (h0.next+1) 0))).put 7 (some (EV.ptr p 0))).put 8 (some (EV.func 113 [] [EV.ptr (h0.next+2) 0]))=tm;have T0:zO tm h0.next (h0.next+1):=⟨by rw[<-U];simp only[It,reduceIte,Nat.reduceEqDiff],by rw[<-U];simp only[It,reduceIte,Nat.reduceEqDiff]⟩
 clear U;refine Ok.range ?_;rw[Ar5 H (by omega)];simp only[JH,Aa];have x2:Ext h1 (Cg TT 29 14 0 tm h1):=Jn;have aa:=x2.hb O;have aj:Sl 153 (.Vv (h1.next+1)) (Cg TT 29 14 0 tm h1)=fun(k:EV->Ab->R)=>k (.ptr (h1.next+2) 0) ((Cg TT 29 14 0 tm h1).new (.cells [.Vv (h1.next+1)] 153)):=rfl
 rw[aj];have x3:Ext h1 ((Cg TT 29 14 0 tm h1).new (.cells [.Vv (h1.next+1)] 153)):=x2.Da _;have k2:((Cg TT 29 14 0 tm h1).new (.cells [.Vv (h1.next+1)] 153)).get (h1.next+2)=some (.cells [.Vv (h1.next+1)] 153):=Ad _ _;have kl:((Cg TT 29 14 0 tm h1).new (.cells [.Vv (h1.next+1)] 153)).get (h1.next+1)=some (Aw TT 29 14 0 tm .ready none h1.next):=by rw[Ay _ (aa _ _ Jy)];exact Jy
 have kd:((Cg TT 29 14 0 tm h1).new (.cells [.Vv (h1.next+1)] 153)).get h1.next=some (.deferred true):=by rw[Ay _ (aa _ _ Lm)];exact Lm
 generalize (Cg TT 29 14 0 tm h1).new (.cells [.Vv (h1.next+1)] 153)=h3 at x3 k2 kl kd⊢;have al:=x3.hb O;have C:∀b o,h1.get b=some o->h3.get b=some o:=fun b o B=>x3.at O B
 have P3:Fa h3 p ql n q c g ps:=P.ext fun b o B=>C _ _ (x1.at iE B)
 simp only[Cw (C _ _ B) rfl,Aa,P3.list];have M3:qP h0 h3 (fun x=>∃d,d<n/\x=c d) (h1.next+1) h1.next tm h0.next (h0.next+1) z (h1.next+2) false:=
  ⟨Ext.kp (x1.trans x3),⟨kl,C _ _ g3,C _ _ g4,k2,al⟩,kd,by omega,by omega,by omega⟩
 refine(Blt (K:=K) H P iE tt hZ hn T0 (e:=e) (by omega) hK K 0 h3 _ [] (by omega) (by omega) M3 (by simp only[It,reduceIte,Nat.reduceEqDiff]) dP (fun d hd=>by cases hd) rfl).mono ?_;rintro v h4 j;have ab:=j.look.hb _ _ j.look.lp;have nl:∀b o st J,h4.get b=some o->(∀st p,o≠Aw TT 29 14 0 tm st p h1.next)->(h4.put (h1.next+1) (Aw TT 29 14 0 tm st J h1.next)).get b=some o:=fun b o st J B ao=>by
  rw[Af _ (Az j.look.lp B (fun y=>ao _ _ y.symm))];exact B
 have L:∀st J,Kp (fun x=>∃d,d<n/\x=c d) h0 (h4.put (h1.next+1) (Aw TT 29 14 0 tm st J h1.next)):=fun st J=>j.kp.Ar (by omega) ab _
 have E:∀st J,HB (h4.put (h1.next+1) (Aw TT 29 14 0 tm st J h1.next)):=fun st J=>j.look.hb.put ab _
 have f:∀(A:Ab) (b:Bool),A.get (h0.next+1)=some (.cells [.bool b] 4)->Jk TT [.c (.ptr (h0.next+1) 0) 4] A=some (.bool b,A):=by
  intro A b hg;have hr:I6 A (h0.next+1) 0 1=some [.bool b]:=by unfold I6;rw[hg];rfl
  unfold Jk;simp only[kg,show TT.size 4=some 1 by kernel_rfl,show TT.agg 4=some false by kernel_rfl,hr]
 cases hf:hasB ps n z with
 | true=>
  rw[hf]at j;refine .inr ⟨j.look.lp,?_⟩;refine Ok.unwind (cK.2 ⟨by simp,dP⟩) (fun d hd=>by rw[aP]at hd;subst hd;exact nl _ _ _ _ j.cd (by intros;simp[Aw])) (E _ _) fun A W aq=>?_
  have X:A.get (h0.next+1)=some (.cells [.bool true] 4):=Av.at W (E _ _) (nl _ _ _ _ j.look.c4 (by intros;simp[Aw])) (by simp;omega);rw[f A true X];exact .ret ⟨rfl,(L _ _).tQ W fun i hi=>by rw[aP]at hi;omega,W.hb (E _ _)⟩
 | false=>
  rw[hf]at j;refine .inl ⟨j.look.lp,?_⟩;simp only[xE,dr];refine Ok.gT (nl _ _ _ _ j.look.c4 (by intros;simp[Aw])) rfl rfl (by show 0<1;decide) ?_;have ad:h0.next+1<(h4.put (h1.next+1) (Aw TT 29 14 0 tm .exhausted none h1.next)).next:=j.look.hb _ _ j.look.c4
  have Y:HB ((h4.put (h1.next+1) (Aw TT 29 14 0 tm .exhausted none h1.next)).put (h0.next+1) (.cells ([EV.bool false].set 0 (.bool false)) 4)):=(E _ _).put ad _;refine Ok.unwind (cK.2 ⟨by simp,dP⟩) (fun d hd=>by rw[aP]at hd;subst hd;rw[Af _];exact nl _ _ _ _ j.cd (by intros;simp[Aw])) Y fun A W aq=>?_
  have X:A.get (h0.next+1)=some (.cells [.bool false] 4):=Av.at W Y (Ae _ _ _) (by simp;omega);rw[f A false X];exact .ret ⟨rfl,((L _ _).Ar (by omega) ad _).tQ W fun i hi=>by rw[aP]at hi;omega,W.hb Y⟩
end
end
section
def Bp(g:Gm)(z:Int):Int:=if z<0\/g.D*g.Z<=z then -1 else z/g.Z
theorem J1 {g:Gm}(s:Sm g)(z:Int)(J : -9223372036854775808<=z/\z<=9223372036854775807)(h:Ab):Ok (E4 K (gV g) (I z) h) fun v h'=>v=I (Bp g z)/\Ext h h':=by
 have:=s.d0;have:=s.d1;have:=s.z0;have:=s.z1;obtain⟨L,m1⟩:=Q6 (a:=g.D) (b:=g.Z) (A:=8) (B:=64);simp only[E4,gV,Aa,I,Ac];have C:(h.new (.cells (gL g) 23)).get h.next=some (.cells (gL g) 23):=Ad _ _
 have hn:h.next<(h.new (.cells (gL g) 23)).next:=aO _
 have y:Ext h (h.new (.cells (gL g) 23)):=Av.new _ _;generalize h.new (.cells (gL g) 23)=E at C hn y⊢;unfold Bp;by_cases h1:z<0
 ·simp only[h1,aC,Aa,Ac,Ur]
  exact .ret ⟨by rw[aI (.inl trivial)],y⟩
 ·simp only[h1,aA,Aa,Ac,Cy C rfl,Aj (show(gL g).length=6 from rfl)]
  rw[show EV.agg (gL g)=gV g from rfl,Nj s,Au];simp only[I,Ac,Ur];by_cases h2:g.D*g.Z<=z
  ·simp only[h2,aC,Aa]
   exact .ret ⟨by rw[aI (.inr trivial)],y.Da _⟩
  ·have f:(E.new (.cells (gL g) 23)).get h.next=some (.cells (gL g) 23):=by rw[Ay _ hn];exact C
   have j:Ext h (E.new (.cells (gL g) 23)):=y.Da _;generalize E.new (.cells (gL g) 23)=hc at f j⊢;simp only[h2,aA,Aa,FJ,Cw f rfl,gL,I];rw[rU (by omega) (by omega) (by omega)];exact .ret ⟨by rw[aG (by rintro(x|x)<;>exact x)],j⟩
def upd(ps:Nat->List Int)(d:Nat)(l:List Int):Nat->List Int:=fun e=>if e=d then l else ps e
def mP(n:Nat)(c:Nat->Nat):Nat->Prop:=fun x=>∃d,d<n/\x=c d
def zP:D3->Prop
 | .chan ..=>False
 | _=>True
theorem Fa.vV{p:Nat}{q c:Nat->Nat}{g:Gm}(P:Fa h p ql n q c g ps){b:Nat}(f:h.get b=some o)(j:zP o):¬mP n c b:=by
 rintro⟨d,hd,rfl⟩;rw[P.chan d hd]at f;cases f;exact j
theorem Fa.put{p:Nat}{q c:Nat->Nat}{g:Gm}(P:Fa h p ql n q c g ps){d:Nat}(hd:d<n)(l:List Int):Fa (h.put (c d) (.chan g.Z.toNat (l.map I))) p ql n q c g (upd ps d l):=by
 have ne:∀b o,h.get b=some o->zP o->(h.put (c d) (.chan g.Z.toNat (l.map I))).get b=some o:=fun b o j y=>by
  rw[Af _ (fun e=>P.vV j y ⟨d,hd,e.symm⟩)];exact j
 refine⟨P.pos,ne _ _ P.Gn trivial,ne _ _ P.row trivial,fun e he=>ne _ _ (P.que e he) trivial,fun e he=>?_,P.inj⟩;unfold upd;by_cases f:e=d
 ·subst f;rw[aI rfl];exact Ae _ _ _
 ·rw[aG f,Af _ (fun x=>f (P.inj _ _ he hd x.symm))];exact P.chan e he
theorem Fa.kp{S:Nat->Prop}{p:Nat}{q c:Nat->Nat}{g:Gm}(P:Fa h p ql n q c g ps)(hb:HB h)(k:Kp S h h'):Fa h' p ql n q c g ps:=P.ext fun i o g=>k.at hb g
structure S9(n:Nat)(g:Gm)(ps:Nat->List Int):Prop where
 nd:n=g.D.toNat
 sm:Sm g
 cap:∀d,d<n->(ps d).length<=g.Z.toNat
theorem S9.bd{g:Gm}(z:S9 n g ps):n<=8/\g.Z<=64/\(n:Int)=g.D:=by
 have:=z.nd;have:=z.sm.d0;have:=z.sm.d1;have:=z.sm.z1;omega
theorem S9.small{g:Gm}(z:S9 n g ps):zK n ps:=by
 obtain⟨a,b,_⟩:=z.bd;exact⟨by omega,fun d hd=>by have:=z.cap d hd;omega⟩
theorem S9.upd{g:Gm}(z:S9 n g ps){d:Nat}{l:List Int}(f:l.length<=g.Z.toNat):S9 n g (upd ps d l):=
 ⟨z.nd,z.sm,fun e he=>by unfold Ev.upd;split;exact f;exact z.cap e he⟩
def We(g:Gm)(n:Nat)(ps:Nat->List Int)(z:Int):Int × (Nat->List Int):=
 if Bp g z<0 then(13,ps)else if hasB ps n z then(16,ps)else
  if(ps (Bp g z).toNat).length<g.Z.toNat then(0,upd ps (Bp g z).toNat (ps (Bp g z).toNat++[z]))else(17,ps)
theorem Ip {g:Gm}(s:Sm g)(z:Int):Bp g z = -1\/(0<=Bp g z/\Bp g z<g.D/\Bp g z=z/g.Z/\0<=z/\z<g.D*g.Z):=by
 have:=s.z0;unfold Bp;split
 ·exact .inl rfl
 ·refine .inr ⟨Int.ediv_nonneg (by omega) (by omega),Int.ediv_lt_of_lt_mul (by omega) (by omega),rfl,by omega,by omega⟩
section
variable (H:Bv disp){p:Nat}{q c:Nat->Nat}{g:Gm}(P:Fa h p ql n q c g ps)(hb:HB h)(Z:S9 n g ps)(hK:5000<K)
include P hb Z hK
theorem wQ(d:Int):Ok (Pb K (.ptr p 0) (I d) h) fun v h'=>Av (mP n c) h h'/\HB h'/\∃x e c_,v=.tuple [I x,I e]/\Fa h' p ql n q c g c_/\S9 n g c_ /\
 ((d<0\/(n:Int)<=d)/\x=0/\e=13/\c_=ps\/(0<=d/\d<n/\ps d.toNat = []/\x=0/\e=15/\c_=ps)\/(0<=d/\d<n/\e=0/\∃r,ps d.toNat=x::r/\c_=upd ps d.toNat r)):=by
 simp only[Pb,I,Ac,Aa];by_cases h1:d<0
 ·simp only[h1,aC,Aa,Ac,Yn]
  exact .ret ⟨Av.refl _,hb,0,13,ps,rfl,P,Z,.inl ⟨.inl trivial,rfl,rfl,rfl⟩⟩
 ·simp only[h1,aA,Aa,Ac,P.list,Yn]
  by_cases h2:(n:Int)<=d
  ·simp only[h2,aC,Aa]
   exact .ret ⟨Av.refl _,hb,0,13,ps,rfl,P,Z,.inl ⟨.inr trivial,rfl,rfl,rfl⟩⟩
  ·obtain⟨d,rfl⟩:=bA (show 0<=d by omega)
   have hd:d<n:=by omega
   simp only[h2,aA,Aa,JC,P.list];rw[P.rowAt.ix hd];simp only[P.og hd];cases f:ps d with
   | nil=>
    rw[take_nil (P.que _ hd) (P.chan _ hd) f];simp only[Aa];exact .ret ⟨Av.refl _,hb,0,15,ps,rfl,P,Z,.inr (.inl ⟨by omega,by omega,f,rfl,rfl,rfl⟩)⟩
   | cons x r=>
    rw[take_cons (P.que _ hd) (P.chan _ hd) f];simp only[Aa];have lt:=hb _ _ (P.chan _ hd);refine .ret ⟨(Av.refl h).Ar (.inl ⟨_,hd,rfl⟩) lt _,hb.put lt _,x,0,upd ps d r,rfl,P.put hd r,Z.upd ?_,.inr (.inr ⟨by omega,by omega,rfl,r,f,rfl⟩)⟩;have:=Z.cap _ hd;rw[f]at this;simp at this;omega
include H
theorem VZ {d:Nat}(hd:8<=d)(z:Int)(W : -9223372036854775808<=z/\z<=9223372036854775807):Ok (Ag TT disp K d false 56 [.ptr p 0,I z] h) fun v h'=>Av (mP n c) h h'/\HB h'/\v=I (We g n ps z).1/\Fa h' p ql n q c g (We g n ps z).2/\S9 n g (We g n ps z).2:=by
 obtain⟨e,rfl⟩:∃k,d=k+1:=⟨d-1,by omega⟩;obtain⟨b1,b2,b3⟩:=Z.bd;rw[Atp H (by omega)];simp only[JE,Aa,P.pF];refine(J1 Z.sm z W h).Am ?_;rintro _ h1 ⟨rfl,C⟩;have A:=C.hb hb;have E:=P.ext fun i o g=>C.at hb g
 simp only[I,Ac];unfold We;rcases Ip Z.sm z with J|⟨d0,d1,d2,d3,d4⟩
 ·rw[J]
  simp only[show(-1:Int)<0 by decide,aC,Aa,bJ];exact .ret ⟨Ext.to C,A,rfl,E,Z⟩
 ·have L:¬Bp g z<0:=by omega
  simp only[L,aA,Aa,ak];refine(DQ (K:=K) H E A Z.cap (by omega) (by omega) (d:=e) (by omega) hK z).Am ?_;rintro _ h2 ⟨rfl,U,y⟩;have j:=E.kp A U;have B:Av (mP n c) h h2:=(Ext.to C).trans U.chg;cases X:hasB ps n z with
  | true=>
   simp only[Aa,bJ];exact .ret ⟨B,y,rfl,j,Z⟩
  | false=>
   have f:(Bp g z).toNat<n:=by omega
   simp only[Aa,JD,j.list];rw[show Bp g z=((Bp g z).toNat:Int) by omega,j.rowAt.ix f];simp only[j.og f,bF];have lt:=y _ _ (j.chan _ f);by_cases O:(ps (Bp g z).toNat).length<g.Z.toNat
   ·rw[zN (j.que _ f) (j.chan _ f) z O,Au]
    rw[aI O];refine .ret ⟨B.Ar (.inl ⟨_,f,rfl⟩) lt _,y.put lt _,rfl,j.put f _,Z.upd ?_⟩;rw[aF];simp;omega
   ·rw[Bsw (j.que _ f) (j.chan _ f) z (by omega),Au]
    rw[aG O];exact .ret ⟨B,y,rfl,j,Z⟩
end
end
section
def Pf(z:Int)(xs:List Int):List Int:=xs.filter fun x=>decide (¬x=z)
theorem Bmv(z x:Int)(r:List Int):Pf z (x::r)=(if x=z then[]else[x])++Pf z r:=by
 unfold Pf;rw[eh];by_cases h:x=z<;>simp[h]
theorem Bc5(z:Int)(a b:List Int):Pf z (a++b)=Pf z a++Pf z b:=fG ..
theorem V_(z:Int)(xs:List Int):(Pf z xs).length<=xs.length:=fH _ _
section
variable (H:Bv disp)(hK:5000<K)
include H hK
theorem Bim(he:1<=e){q c:Nat}{z:Int}(y:h0.get q=some (.cells [.chan c] 176))(f:∃b,h0.get c=some (.chan cap b))(J:h0.get b3=some (.cells [I z] 3))(ae:xs.length<=cap)(ag:cap<=4096)(iE:HB h0):∀(m i:Nat) (h:Ab),xs.length-i<m->i<=xs.length ->
 h.get c=some (.chan cap ((xs.drop i++Pf z (xs.take i)).map I))->Av (fun j=>j=c) h0 h->HB h ->
 Ok (Ky (Ag TT disp K e false) (Ag TT disp K e true) K m (.ptr q 0) (.func 192 [] [.ptr b3 0]) (I ((i:Int)-(Pf z (xs.take i)).length)) (I xs.length) (I i) h) fun v h'=>v=I ((xs.length:Int)-(Pf z xs).length)/\h'.get c=some (.chan cap ((Pf z xs).map I))/\Av (fun j=>j=c) h0 h'/\HB h':=by
 obtain⟨b0,f⟩:=f;have L:q≠c:=Az y f (by simp);have aa:b3≠c:=Az J f (by simp);have lc:=iE _ _ f;intro m;induction m with
 | zero=>intro i h hm;omega
 | succ m ih=>
  intro i h hm hi hc x hb;simp only[Ky,I,Ac,Aa];by_cases O:(i:Int)<xs.length
  ·have U:i<xs.length:=by omega
   have hq:h.get q=some (.cells [.chan c] 176):=Av.at x iE y L;have W:c<h.next:=aN lc x.next
   have ed:xs.drop i=xs[i]::xs.drop (i+1):=dU U;have E:Pf z (xs.take (i+1))=Pf z (xs.take i)++(if xs[i]=z then[]else[xs[i]]):=by
    rw[cD U,Bc5,Bmv];simp[Pf]
   rw[ed,List.cons_append]at hc;have bl:=V_ z (xs.take i);rw[bZ]at bl;simp only[O,aC,Aa,H'];rw[take_cons hq hc rfl];simp only[Aa,I,Ac,aB,aA,HZ];have X:Av (fun j=>j=c) h0 (h.put c (.chan cap ((xs.drop (i+1)++Pf z (xs.take i)).map I))):=x.Ar (.inl rfl) W _;have A:HB (h.put c (.chan cap ((xs.drop (i+1)++Pf z (xs.take i)).map I))):=hb.put W _;have B:(h.put c (.chan cap ((xs.drop (i+1)++Pf z (xs.take i)).map I))).get c=some (.chan cap ((xs.drop (i+1)++Pf z (xs.take i)).map I)):=Ae _ _ _;have ab:(h.put c (.chan cap ((xs.drop (i+1)++Pf z (xs.take i)).map I))).next=h.next:=rfl
   generalize h.put c (.chan cap ((xs.drop (i+1)++Pf z (xs.take i)).map I))=h2 at X A B ab⊢;have g3:h2.get b3=some (.cells [I z] 3):=Av.at X iE J aa;have C:T5 (Ag TT disp K e false) (Ag TT disp K e true) (.func 192 [] [.ptr b3 0]) [.int .i64 xs[i]] h2=some (.bool (decide (¬xs[i]=z)),h2):=by
    show Ag TT disp K e false 192 [.int .i64 xs[i],.ptr b3 0] h2=_;rw[Aow H he];simp only[IA,Cw g3 rfl,Aa,I,Ac]
   rw[C,Au];by_cases Y:xs[i]=z
   ·rw[aI Y,dO]at E
    simp only[Y,aB,aA,Aa,Ac,Ox];rw[Cl (n:=(i:Int)-(Pf z (xs.take i)).length+1),Cl (n:=(i:Int)+1)];have:=ih (i+1) h2 (by omega) (by omega) (by rw[E];exact B) X A;rw[E]at this;have e3:(i:Int)-(Pf z (xs.take i)).length+1=((i+1:Nat):Int)-(Pf z (xs.take i)).length:=by omega
    rw[e3];exact this
   ·rw[aG Y]at E
    simp only[Y,aR,aC,Aa,Ac,HY];have ad:h2.get q=some (.cells [.chan c] 176):=Av.at X iE y L;rw[show EV.int .i64 xs[i]=I xs[i]from rfl,zN ad B xs[i] (by rw[aF,bB];omega),Au];simp only[Ox,Ac];rw[Cl (n:=(i:Int)+1)];have:=ih (i+1) (h2.put c (.chan cap ((xs.drop (i+1)++Pf z (xs.take i)++[xs[i]]).map I))) (by omega) (by omega) (by rw[E,<-bY];exact Ae _ _ _) (X.Ar (.inl rfl) (by omega) _) (A.put (by omega) _);rw[E,aF]at this;have e3:(i:Int)-(Pf z (xs.take i)).length=((i+1:Nat):Int)-((Pf z (xs.take i)).length+[xs[i]].length:Nat):=by simp;omega
    rw[e3];exact this
  ·have:i=xs.length:=by omega
   subst this;rw[List.drop_length,cV,bW]at hc;rw[bW];simp only[O,aA,Aa,Uo];exact .ret ⟨rfl,hc,x,hb⟩
theorem Bod{p:Nat}{q c:Nat->Nat}{g:Gm}(P:Fa h p ql n q c g ps)(hb:HB h)(Z:S9 n g ps){d:Nat}(hd:4<=d)(z:Int)(hz : -9223372036854775808<=z/\z<=9223372036854775807):
 Ok (Ag TT disp K d false 162 [.ptr p 0,I z] h) fun v h'=>(∃e,v=I e)/\Av (mP n c) h h'/\HB h'/\Fa h' p ql n q c g (if Bp g z<0 then ps else upd ps (Bp g z).toNat (Pf z (ps (Bp g z).toNat)))/\S9 n g (if Bp g z<0 then ps else upd ps (Bp g z).toNat (Pf z (ps (Bp g z).toNat))):=by
 obtain⟨e,rfl⟩:∃k,d=k+2:=⟨d-2,by omega⟩;obtain⟨b1,b2,b3⟩:=Z.bd;rw[Atx H (by omega)];simp only[HW,I,Aa];obtain⟨h1,e_,X,Y,n1⟩:=nW h (.cells [.int .i64 z] 3);rw[e_];have B:=X.hb hb;have P1:=P.ext fun i o g=>X.at hb g
 have lp:=B _ _ P1.Gn;have l3:=B _ _ Y;simp only[Aa,As,Cp lp,Cp l3,P1.pF,Cw Y rfl];refine Ok.bE (J1 Z.sm z hz _) (fun _ _ p=>p.2) ?_;rintro _ _ h2 ⟨rfl,_⟩ _ W;have C:=W.hb B;have A:=P1.ext fun i o g=>W.at B g
 have J:=X.trans W;simp only[I,Ac];rcases Ip Z.sm z with ab|⟨d0,d1,d2,d3,d4⟩
 ·rw[ab]
  simp only[show(-1:Int)<0 by decide,aC,Aa,Ac,bJ,Rb];exact .ret ⟨⟨15,rfl⟩,Ext.to J,C,A,Z⟩
 ·have L:¬Bp g z<0:=by omega
  simp only[L,aA,Aa,Ac,ak,A.list];generalize au:Bp g z=dm at d0 d1 L;obtain⟨dn,rfl⟩:=bA d0;have f:dn<n:=by omega
  rw[A.rowAt.ix f];simp only[A.og f,bF];rw[Aoq H (by omega)];simp only[H_,dr];rw[A.len f,Au];have O:=A.chan _ f;have:=Bim (K:=K) H hK (e:=e) (by omega) (z:=z) (xs:=ps dn) (A.que _ f) ⟨_,O⟩ (W.at B Y) (Z.cap _ f) (by omega) C K 0 h2 (by have:=Z.cap _ f;omega) (by omega) (by rw[dF,List.take_zero,show Pf z [] = []from rfl,dO];exact O) (Av.refl _) C;refine Ok.Am (P:=fun v h'=>v=I (((ps dn).length:Int)-(Pf z (ps dn)).length)/\h'.get (c dn)=some (.chan g.Z.toNat ((Pf z (ps dn)).map I))/\Av (fun j=>j=c dn) h2 h'/\HB h') this ?_;rintro _ h3 ⟨rfl,ae,x3,U⟩;simp only[Ac,I];have ch:Av (mP n c) h h3:=(Ext.to J).trans (x3.mono fun i hi=>⟨dn,f,hi⟩);have P3:Fa h3 p ql n q c g (upd ps dn (Pf z (ps dn))):=by
   have ne:∀b o,h2.get b=some o->zP o->h3.get b=some o:=fun b o gb ho=>Av.at x3 C gb fun e=>A.vV gb ho ⟨dn,f,e⟩
   refine⟨A.pos,ne _ _ A.Gn trivial,ne _ _ A.row trivial,fun e he=>ne _ _ (A.que e he) trivial,fun e he=>?_,A.inj⟩;unfold upd;by_cases E:e=dn
   ·subst E;rw[aI rfl];exact ae
   ·rw[aG E];exact Av.at x3 C (A.chan e he) fun y=>E (A.inj _ _ he f y)
  have Z3:S9 n g (upd ps dn (Pf z (ps dn))):=Z.upd (bQ (V_ _ _) (Z.cap _ f));by_cases h0:((ps dn).length:Int)-(Pf z (ps dn)).length=0
  ·simp only[h0,aC,Rb,Aa]
   exact .ret ⟨⟨15,rfl⟩,ch,U,P3,Z3⟩
  ·simp only[h0,aA,Rb,Aa,HV]
   exact .ret ⟨⟨0,rfl⟩,ch,U,P3,Z3⟩
end
theorem vH(ps:Nat->List Int)(b:Int):∀n,(Ei ps b n = -1/\∀d:Nat,d<n->(d:Int)=b)\/(0<=Ei ps b n/\Ei ps b n<n/\¬Ei ps b n=b/\∀d:Nat,d<n->(d:Int)=b\/(ps d).length<=(ps (Ei ps b n).toNat).length)
 | 0=>.inl ⟨rfl,fun d hd=>absurd hd (cI _)⟩
 | n+1=>by
  have B:=vH ps b n;rw[zJ];unfold tq;rcases B with⟨f,j⟩|⟨f,j,C,A⟩
  ·by_cases hb:(n:Int)=b
   ·rw[aG (fun x=>x.1 hb)]
    exact .inl ⟨f,fun d hd=>by rcases cF.1 hd with h|h;exact j d h;subst h;exact hb⟩
   ·rw[aI ⟨hb,.inl (by omega)⟩]
    refine .inr ⟨by omega,by omega,hb,fun d hd=>?_⟩;rcases cF.1 hd with h|h
    ·exact .inl (j d h)
    ·subst h;exact .inr (by simp)
  ·by_cases hc:¬(n:Int)=b/\(Ei ps b n<0\/(ps (Ei ps b n).toNat).length<(ps n).length)
   ·rw[aI hc]
    refine .inr ⟨by omega,by omega,hc.1,fun d hd=>?_⟩;rcases cF.1 hd with h|h
    ·rcases A d h with y|y
     ·exact .inl y
     ·refine .inr ?_
      rcases hc.2 with z|z
      ·omega
      ·simp only[bF];omega
    ·subst h;exact .inr (by simp)
   ·rw[aG hc]
    refine .inr ⟨f,by omega,C,fun d hd=>?_⟩;rcases cF.1 hd with h|h
    ·exact A d h
    ·subst h
     by_cases hb:(d:Int)=b
     ·exact .inl hb
     ·exact .inr (by have:¬(ps (Ei ps b d).toNat).length<(ps d).length:=fun y=>hc ⟨hb,.inr y⟩;omega)
theorem Wt{a:Nat}:∀n,(∀d,d<n->d=a\/ps d = [])->Od ps n<=(ps a).length
 | 0,_=>by unfold Od;simp
 | n+1,h=>by
  rw[Ji];rcases h n (aO _)with e|e
  ·subst e
   have:Od ps n=0:=by
    have:∀k,k<=n->Od ps k=0:=by
     intro k j;induction k with
     | zero=>rfl
     | succ k f=>
      rw[Ji,f (by omega)];rcases h k (by omega)with e|e
      ·omega
      ·rw[e];rfl
    exact this n (aE _)
   omega
  ·rw[e];have:=Wt (a:=a) n fun d hd=>h d (Nat.lt_succ_of_lt hd);simp;omega
theorem WB(h:Ft ps n≠0)(hp:0<=Ft ps n):∃a b:Nat,Ei ps (-1) n=a/\Ei ps a n=b/\a<n/\b<n/\a≠b/\ps a≠[]/\ps b≠[]:=by
 have f:0<Ft ps n:=by omega
 unfold Ft at f;rw[Int.lt_min]at f;obtain⟨p1,O⟩:=f;rcases vH ps (-1) n with⟨U,C⟩|⟨U,C,_,W⟩
 ·have:n=0:=by
   cases n with
   | zero=>rfl
   | succ n=>have:=C 0 (by omega);omega
  subst this;unfold Od at p1;simp at p1
 ·obtain⟨a,X⟩:=bA U
  rw[X]at C W O;have E:a<n:=by omega
  have e1:kM ps n a=(ps a).length:=by unfold kM;rw[aI (by omega)];rfl
  rw[e1]at O;have hex:∃d,d<n/\d≠a/\ps d≠[]:=by
   apply Classical.byContradiction;intro J;have:=Wt (ps:=ps) (a:=a) n fun d hd=>by
    by_cases A:d=a
    ·exact .inl A
    ·refine .inr (Classical.byContradiction fun j=>J ⟨d,hd,A,j⟩)
   omega
  obtain⟨d,hd,A,j⟩:=hex;have L:ps a≠[]:=fun e=>by
   rcases W d hd with y|y
   ·omega
   ·rw[bF,e]at y;exact j (cS.1 (by simpa using y))
  rcases vH ps a n with⟨b1,b2⟩|⟨b1,b2,b3,b4⟩
  ·have:=b2 d hd;omega
  ·obtain⟨b,B⟩:=bA b1
   rw[B]at b2 b3 b4;refine⟨a,b,X,B,E,by omega,by omega,L,fun e=>?_⟩;rcases b4 d hd with y|y
   ·omega
   ·rw[bF,e]at y;exact j (cS.1 (by simpa using y))
theorem WC:0<=Ft ps n:=by
 unfold Ft;have:kM ps n (Ei ps (-1) n)<=Od ps n:=by
  unfold kM;split
  ·rename_i h
   have:∀m d,d<m->(ps d).length<=Od ps m:=by
    intro m;induction m with
    | zero=>intro d hd;omega
    | succ m f=>
     intro d hd;rw[Ji];rcases cF.1 hd with h|h
     ·have:=f d h;omega
     ·subst h;omega
   exact this n _ (by omega)
  ·omega
 omega
section
variable{p:Nat}{q c:Nat->Nat}{g:Gm}(P:Fa h p ql n q c g ps)(hb:HB h)(Z:S9 n g ps)(hK:5000<K)
include P hb Z hK
theorem Bon:Ok (X9 K (.ptr p 0) h) fun v h'=>Av (mP n c) h h'/\HB h'/\((Ft ps n=0/\v=.tuple [I 0,I 0,I 15]/\Fa h' p ql n q c g ps) \/
 ∃(a b:Nat) (x y:Int) (r s:List Int),¬Ft ps n=0/\Ei ps (-1) n=a/\Ei ps a n=b/\a<n/\b<n/\a≠b/\ps a=x::r/\ps b=y::s/\v=.tuple [I x,I y,I 0]/\Fa h' p ql n q c g (upd (upd ps a r) b s)/\S9 n g (upd (upd ps a r) b s)):=by
 obtain⟨b1,b2,b3⟩:=Z.bd;simp only[X9,dr];refine(DR P hb Z.small).Am ?_;rintro _ h1 ⟨rfl,C⟩;have f:=C.hb hb;have E:=P.ext fun i o g=>C.at hb g
 simp only[I,Ac];by_cases hp:Ft ps n=0
 ·simp only[hp,aC,Aa]
  exact .ret ⟨Ext.to C,f,.inl ⟨trivial,rfl,E⟩⟩
 ·simp only[hp,aA,Aa,J_]
  obtain⟨a,b,ha,A,J,L,B,O,iE⟩:=WB hp WC;refine(zL E f (by omega) (by omega) (-1)).Am ?_;rintro _ h2 ⟨rfl,U⟩;have j:=U.hb f;have P2:=E.ext fun i o g=>U.at f g
  rw[ha];refine(zL P2 j (by omega) (by omega) a).Am ?_;rintro _ h3 ⟨rfl,W⟩;have X:=W.hb j;have P3:=P2.ext fun i o g=>W.at j g
  rw[A];refine(wQ P3 X Z hK a).Am ?_;rintro _ h4 ⟨c4,Y,x,e,c_,rfl,P4,Z4,hh⟩;have hx:e=0/\∃r,ps a=x::r/\c_=upd ps a r:=by
   rcases hh with⟨y,_⟩|⟨_,_,y,_⟩|⟨_,_,y,z⟩
   ·omega
   ·rw[bF]at y;exact absurd y O
   ·rw[bF]at z;exact⟨y,z⟩
  obtain⟨rfl,r,ab,rfl⟩:=hx;simp only[Aa];refine(wQ P4 Y Z4 hK b).Am ?_;rintro _ h5 ⟨c5,ad,y,e,c_,rfl,P5,Z5,hh⟩;have eb:upd ps a r b=ps b:=by unfold upd;rw[aG (cY B)]
  have hy:e=0/\∃s,ps b=y::s/\c_=upd (upd ps a r) b s:=by
   rcases hh with⟨w,_⟩|⟨_,_,w,_⟩|⟨_,_,w,z⟩
   ·omega
   ·rw[bF,eb]at w;exact absurd w iE
   ·rw[bF,eb]at z;exact⟨w,z⟩
  obtain⟨rfl,s,ae,rfl⟩:=hy;simp only[Aa,I,Ac,aB,aA,J'];refine .ret ⟨(Ext.to (C.trans (U.trans W))).trans (c4.trans c5),ad,.inr ⟨a,b,x,y,r,s,not_false,rfl,A,J,L,B,ab,ae,rfl,P5,Z5⟩⟩
end
end
def Kn(st:Nat):Int:=if st=4 then 32 else if st=3 then 30 else 0
theorem zQ{z q:Nat}{size:Int}{Z:Zn}(f:Fg h z q size Z):Eg K (.ptr z 0) h=some (I Z.st,h):=by
 obtain⟨s,g,_⟩:=f.Al;simp only[Eg,Aa,Cw g rfl]
theorem A8k{z q:Nat}{size:Int}{Z:Zn}(f:Fg h z q size Z):Hx K (.ptr z 0) h=some (I Z.l.length,h):=by
 obtain⟨s,g,r⟩:=f.Al;simp only[Hx,Aa,Cw g rfl,r.Hg]
theorem Xf{z q:Nat}{size:Int}{Z:Zn}(j:Fg h z q size Z):Ea K (.ptr z 0) h=some (I (Kn Z.st),h):=by
 obtain⟨s,g,_⟩:=j.Al;simp only[Ea,Aa,Cw g rfl,I,Ac];unfold Kn;by_cases h4:Z.st=4
 ·have:decide ((Z.st:Int)=4)=true:=by simp[h4]
  rw[this,aI h4];simp only[Aa]
 ·have a:decide ((Z.st:Int)=4)=false:=by simp;omega
  rw[a,aG h4];simp only[Aa,Ac];by_cases f:Z.st=3
  ·have:decide ((Z.st:Int)=3)=true:=by simp[f]
   rw[this,aI f];simp only[Aa]
  ·have b:decide ((Z.st:Int)=3)=false:=by simp;omega
   rw[b,aG f];simp only[Aa,Ac,Nu]
theorem Fg.ext{z q:Nat}{size:Int}{Z:Zn}(d:Fg h z q size Z)(g:∀i o,h.get i=some o->h'.get i=some o):Fg h' z q size Z:=by
 obtain⟨s,a,b⟩:=d.Al;exact⟨⟨s,g _ _ a,b.frame fun f=>by rw[g _ _ (b.block f),b.block f]⟩,d.wf⟩
def Zn.app(Z:Zn)(size:Nat)(x:List EV):Zn:=⟨Z.l++[x],Z.safe,if Z.l.length+1=size then 2 else 1,Z.fin⟩
theorem A0w{z q size:Nat}{Z:Zn}(zz:Fg h z q size Z)(hb:HB h)(a2:Z.st<2)(W:Z.l.length<=64)(Y:x.length=64):
 Ok (D9 K (.ptr z 0) (.agg x) h) fun v h'=>v=.tuple [I Z.l.length,I 0]/\(∃q',Fg h' z q' size (Z.app size x)/\h.next<=q')/\Av (fun i=>i=z\/(0<Z.l.length/\i=q)) h h'/\HB h':=by
 obtain⟨s,g,r⟩:=zz.Al;simp only[D9,Aa];obtain⟨h1,e_,x1,g3,n1⟩:=nW h (.cells x 30);rw[e_];have j:=x1.hb hb;have z1:Fg h1 z q size Z:=zz.ext fun i o g=>x1.at hb g
 have g1:=x1.at hb g;have r1:Cd h1 s q 30 64 Z.l.length Z.l.flatten:=r.frame fun W=>by rw[x1.at hb (r.block W),r.block W]
 rw[Xf z1,Au];have hf:Kn Z.st=0:=by unfold Kn;rw[aG (by omega),aG (by omega)]
 rw[hf];have h2:¬(Z.st:Int)=2:=by omega
 simp only[Ac,I,aB,aA,Aa,Hr,Cw g1 rfl,h2,Nn];have lz:=j _ _ g1;have l3:=j _ _ g3;simp only[Aa,As,Cp lz,Cp l3,Cw g1 rfl,Cy g3 rfl,Aj Y];rw[Wb (z:=List.replicate 64 (.int .u8 0)) rfl (by simp) (by exact Y),Au];obtain⟨f,e_,x2,gx,n2⟩:=nW h1 (.cells (EV.cells (.agg x)) 30);rw[e_];have C:=x2.hb j;have g2:=x2.at j g1;have r2:Cd f.lift s q 30 64 Z.l.length Z.l.flatten:=(r1.frame (h':=f) fun W=>by rw[x2.at j (r1.block W),r1.block W]).frame fun _=>Bx _ _
 obtain⟨h3,e3,r3,n3,c3⟩:=pX (x:=.slice h1.next 0 1 1 false) (n:=1) r2 rfl (by omega) (by omega) (by omega) (X1 (b:=h1.next) (by rw[Bx];exact gx) Y) (by rw[Y]);refine Ok.bC (S:=fun i=>0<Z.l.length/\i=q) (P:=fun v h'=>v=.slice f.lift.next 0 (Z.l.length+1) (Z.l.length+1) true/\h'=h3) ⟨_,_,e3,rfl,rfl⟩ (fun _ _ p=>by rw[p.2];exact c3) ?_;rintro _ _ h4 s' ⟨rfl,rfl⟩ sm x4 ao;have ad:=x4.hb C;rw[rS]at r3 n3;rw[rS];have aq:¬(0<Z.l.length/\z=q):=fun y=>by
  have:=r1.block y.1;exact Az g1 this (by simp) y.2
 have g4:h4.get z=some (.cells [s,I size,I Z.safe,I Z.st,.bool Z.fin] 202):=Av.at x4 C g2 aq;have r4:Cd h4 (.slice f.next 0 (Z.l.length+1) (Z.l.length+1) true) f.next 30 64 (Z.l.length+1) (Z.l.flatten++x):=r3.frame fun _=>sm.get _
 have A:z<h4.next:=ad _ _ g4
 try simp only[Aa]
 rw[G1 (by rcases ao with rfl|⟨w,rfl,_⟩<;>kernel_rfl)];refine Ok.gT g4 rfl rfl (by show 0<5;decide) ?_;refine Ok.gT (Ae _ _ _) rfl rfl (by show 3<5;decide) ?_;simp only[List.set,Aa];have E:f.next≠z:=by have:=C _ _ g2;omega
 have J:z<((h4.put z (.cells [EV.slice f.next 0 (Z.l.length+1) (Z.l.length+1) true,I size,I Z.safe,I Z.st,.bool Z.fin] 202)).put z (.cells [EV.slice f.next 0 (Z.l.length+1) (Z.l.length+1) true,I size,I Z.safe,.int .i64 1,.bool Z.fin] 202)).next:=A
 have hq:h.next<=f.next:=by omega
 have r5:∀o1 B,Cd ((h4.put z o1).put z B) (.slice f.next 0 (Z.l.length+1) (Z.l.length+1) true) f.next 30 64 (Z.l.length+1) (Z.l.flatten++x):=fun o1 B=>r4.frame fun _=>by rw[Af _ (cY E),Af _ (cY E)]
 have ch:∀o1 B,Av (fun i=>i=z\/(0<Z.l.length/\i=q)) h ((h4.put z o1).put z B):=fun o1 B=>((((Ext.to (x1.trans x2)).trans (x4.mono fun i hi=>.inr hi)).Ar (.inl (.inl rfl)) A _).Ar (.inl (.inl rfl)) A _)
 have au:∀o1 B,HB ((h4.put z o1).put z B):=fun o1 B=>(ad.put A _).put A _
 have gz:((h4.put z (.cells [EV.slice f.next 0 (Z.l.length+1) (Z.l.length+1) true,I size,I Z.safe,I Z.st,.bool Z.fin] 202)).put z (.cells [EV.slice f.next 0 (Z.l.length+1) (Z.l.length+1) true,I size,I Z.safe,.int .i64 1,.bool Z.fin] 202)).get z=some (.cells [EV.slice f.next 0 (Z.l.length+1) (Z.l.length+1) true,I size,I Z.safe,.int .i64 1,.bool Z.fin] 202):=Ae _ _ _;have L:=r5 (.cells [EV.slice f.next 0 (Z.l.length+1) (Z.l.length+1) true,I size,I Z.safe,I Z.st,.bool Z.fin] 202) (.cells [EV.slice f.next 0 (Z.l.length+1) (Z.l.length+1) true,I size,I Z.safe,.int .i64 1,.bool Z.fin] 202);have O:=ch (.cells [EV.slice f.next 0 (Z.l.length+1) (Z.l.length+1) true,I size,I Z.safe,I Z.st,.bool Z.fin] 202) (.cells [EV.slice f.next 0 (Z.l.length+1) (Z.l.length+1) true,I size,I Z.safe,.int .i64 1,.bool Z.fin] 202);have U:=au (.cells [EV.slice f.next 0 (Z.l.length+1) (Z.l.length+1) true,I size,I Z.safe,I Z.st,.bool Z.fin] 202) (.cells [EV.slice f.next 0 (Z.l.length+1) (Z.l.length+1) true,I size,I Z.safe,.int .i64 1,.bool Z.fin] 202);generalize (h4.put z (.cells [EV.slice f.next 0 (Z.l.length+1) (Z.l.length+1) true,I size,I Z.safe,I Z.st,.bool Z.fin] 202)).put z (.cells [EV.slice f.next 0 (Z.l.length+1) (Z.l.length+1) true,I size,I Z.safe,.int .i64 1,.bool Z.fin] 202)=h5 at gz L O U J⊢;simp only[Cw gz rfl,Aa,I,Ac];have fin:∀(st:Nat) (X:Ab),st=(Z.app size x).st->X.get z=some (.cells [EV.slice f.next 0 (Z.l.length+1) (Z.l.length+1) true,I size,I Z.safe,I st,.bool Z.fin] 202)->Cd X (.slice f.next 0 (Z.l.length+1) (Z.l.length+1) true) f.next 30 64 (Z.l.length+1) (Z.l.flatten++x)->Av (fun i=>i=z\/(0<Z.l.length/\i=q)) h X->HB X ->
  Ok (H8 K (.ptr z 0) X) fun v h'=>v=.tuple [I Z.l.length,I 0]/\(∃q',Fg h' z q' size (Z.app size x)/\h.next<=q')/\Av (fun i=>i=z\/(0<Z.l.length/\i=q)) h h'/\HB h':=by
  rintro st X rfl g6 r6 c6 aw;simp only[H8,Aa,Cw g6 rfl,I,Ac];rw[Cl,show((Z.l.length+1:Nat):Int)-1=(Z.l.length:Int) by omega];refine .ret ⟨rfl,⟨f.next,⟨⟨_,g6,?_⟩,fun y hy=>by
   rcases bR.1 hy with hy|hy
   ·exact zz.wf y hy
   ·rw[aP.1 hy];exact Y⟩,hq⟩,c6,aw⟩
  have e1:(Z.app size x).l.length=Z.l.length+1:=by simp[Zn.app]
  have e2:(Z.app size x).l.flatten=Z.l.flatten++x:=by simp[Zn.app]
  rw[e1,e2];exact r6
 by_cases hs:Z.l.length+1=size
 ·have:((Z.l.length+1:Nat):Int)=(size:Int):=by omega
  simp only[this,aC,Aa];refine Ok.gT gz rfl rfl (by show 3<5;decide) ?_;refine fin 2 _ (by simp[Zn.app,hs]) (Ae _ _ _) (L.frame fun _=>Af _ (cY E)) (O.Ar (.inl (.inl rfl)) J _) (U.put J _)
 ·have:¬((Z.l.length+1:Nat):Int)=(size:Int):=by omega
  simp only[this,aA,Aa];exact fin 1 _ (by simp[Zn.app,hs]) gz L O U
theorem A2i{z q:Nat}{size:Int}{Z:Zn}(A:Fg h z q size Z)(hb:HB h)(B:2<=Z.st)(h4:Z.st<=4)(x:List EV):
 Ok (D9 K (.ptr z 0) (.agg x) h) fun v h'=>v=.tuple [I 0,I (if Z.st=2 then 17 else Kn Z.st)]/\Ext h h':=by
 simp only[D9,Aa];obtain⟨h1,C,f,_,_⟩:=nW h (.cells x 30);rw[C];have z1:Fg h1 z q size Z:=A.ext fun i o g=>f.at hb g
 rw[Xf z1,Au];obtain⟨s,g,_⟩:=z1.Al;by_cases h2:Z.st=2
 ·have j:Kn Z.st=0:=by unfold Kn;rw[aG (by omega),aG (by omega)]
  have y:(Z.st:Int)=2:=by omega
  rw[j];simp only[Ac,I,aB,aA,Aa,Hr,Cw g rfl,y,aC,h2,bJ];exact .ret ⟨rfl,f⟩
 ·have j:¬Kn Z.st=0:=by
   unfold Kn;split
   ·decide
   ·split
    ·decide
    ·omega
  simp only[Ac,I,j,aR,aC,Aa,h2,ak];exact .ret ⟨rfl,f⟩
theorem Ej{l:List EV}(f:h.get i=some (.cells l t))(hs:TT.size t=some n)(j:TT.agg t=some true)(y:l.length=n):Jk TT [.c (.ptr i 0) t,.v v] h=some (.tuple [.agg l,v],h):=by
 have A:I6 h i 0 n=some l:=by
  unfold I6;rw[f];simp only;rw[<-nC];exact Aj y
 unfold Jk;simp only[kg,hs,A,j]
theorem kz:TT.size 30=some 64/\TT.agg 30=some true:=⟨by kernel_rfl,by kernel_rfl⟩
def Vb:List EV:=List.replicate 64 (.int .u8 0)
theorem Kq:Vb.length=64:=by simp[Vb]
theorem Bn4:∀(l:List (List EV)) (j:Nat),(∀x∈l,x.length=64)->j<l.length->∃x,l[j]? = some x/\x.length=64/\Og l.flatten (j*64) 64=some x:=by
 intro l;induction l with
 | nil=>intro j _ hj;cases hj
 | cons y l B=>
  intro j hw hj;have J:=hw y (aW ..);cases j with
  | zero=>
   refine⟨y,rfl,J,?_⟩;rw[cJ,Fx (by simp[J]),gK,dF,fL (by omega),bS (by omega)]
  | succ j=>
   obtain⟨x,e1,e2,e3⟩:=B j (fun x f=>hw x (aU _ f)) (by simpa using hj);refine⟨x,by simpa using e1,e2,?_⟩;have L:j*64+64<=l.flatten.length:=by
    rcases cb l.flatten.length (j*64+64)with C|E
    ·rw[nC]at e3
     exfalso;have:(l.flatten.drop (j*64)).length<64:=by rw[bB];omega
     revert e3;have hlen:l.flatten.length=l.length*64:=by
      clear B hj e1 C this;have A:∀x∈l,x.length=64:=fun x f=>hw x (aU _ f)
      clear hw;induction l with
      | nil=>rfl
      | cons a l B=>rw[cJ,aF,B fun x f=>A x (aU _ f),A a (aW ..),bG];omega
     have:j+1<=l.length:=by simp at hj;omega
     omega
    ·exact E
   rw[Fx L]at e3;rw[cJ,Fx (by rw[aF];omega),show(j+1)*64=y.length+j*64 by omega,List.drop_append,<-e3,dh (by omega),cV];simp
def jB(Z:Zn)(off:Int):List EV × Int:=if Z.st=4 then(Vb,32)else if 0<=off/\off<Z.l.length then((Z.l[off.toNat]?).getD Vb,0)else(Vb,31)
theorem Bii {Z:Zn}(wf:∀x∈Z.l,x.length=64)(off:Int):(jB Z off).1.length=64:=by
 unfold jB;split
 ·exact Kq
 ·split
  ·rename_i hc
   have:off.toNat<Z.l.length:=by omega
   rw[aD this];exact wf _ (bH _)
  ·exact Kq
theorem A50{z q:Nat}{size:Int}{Z:Zn}(L:Fg h z q size Z)(hb:HB h)(off:Int):
 Ok (Hm K (.ptr z 0) (I off) h) fun v h'=>v=.tuple [.agg (jB Z off).1,I (jB Z off).2]/\Ext h h':=by
 simp only[Hm,Aa];have y:Ext h ((h.new (.cells (List.replicate 64 (.int .u8 0)) 30)).new (.cells (List.replicate 64 (.int .u8 0)) 30)):=(Av.new _ _).Da _;have A:((h.new (.cells (List.replicate 64 (.int .u8 0)) 30)).new (.cells (List.replicate 64 (.int .u8 0)) 30)).get h.next=some (.cells Vb 30):=by
  rw[Ay _ (aO _)];exact Ad _ _
 have f:((h.new (.cells (List.replicate 64 (.int .u8 0)) 30)).new (.cells (List.replicate 64 (.int .u8 0)) 30)).get (h.new (.cells (List.replicate 64 (.int .u8 0)) 30)).next=some (.cells Vb 30):=Ad _ _
 generalize U:(h.new (.cells (List.replicate 64 (.int .u8 0)) 30)).next=X at f⊢
 generalize (h.new (.cells (List.replicate 64 (.int .u8 0)) 30)).new (.cells (List.replicate 64 (.int .u8 0)) 30)=h1 at y A f⊢;have B:=y.hb hb;have z1:Fg h1 z q size Z:=L.ext fun i o g=>y.at hb g
 obtain⟨s,g,r⟩:=z1.Al;have W:=B _ _ A;have fin:∀(l:List EV) (e:Int),l.length=64->(l,e)=jB Z off->Ok (f_ 64 (.ptr h.next 0) (.agg l) h1 fun h=>Jk TT [.c (.ptr h.next 0) 30,.v (I e)] h) (fun v h'=>True)->True:=fun _ _ _ _ _=>trivial
 clear fin;have fin:∀(l:List EV) (e:Int) (C:Ab->R),(∀h',C h'=Jk TT [.c (.ptr h.next 0) 30,.v (I e)] h')->l.length=64->(l,e)=jB Z off->Ok (f_ 64 (.ptr h.next 0) (.agg l) h1 C) fun v h'=>v=.tuple [.agg (jB Z off).1,I (jB Z off).2]/\Ext h h':=by
  intro l e C E J he;refine Ok.st l A rfl (by rw[show EV.cells (.agg l)=l from rfl,Bh,J]) (Bn (by rw[Kq];exact J.symm)) ?_;rw[E,Ej (Ae _ _ _) kz.1 kz.2 J,<-he];exact .ret ⟨rfl,y.Ar (.inr (aE _)) W _⟩
 simp only[Cw g rfl,Aa,I,Ac,Cy f rfl,Aj Kq];by_cases h4:Z.st=4
 ·rw[show decide ((Z.st:Int)=4)=true by simp[h4]]
  simp only[Aa];exact fin Vb 32 _ (fun _=>rfl) Kq (by unfold jB;rw[aI h4])
 ·rw[show decide ((Z.st:Int)=4)=false by simp;omega]
  simp only[Aa];by_cases h0:off<0
  ·simp only[h0,aC,Aa,Je,Cy f rfl,Aj Kq]
   exact fin Vb 31 _ (fun _=>rfl) Kq (by unfold jB;rw[aG h4,aG (by omega)])
  ·simp only[h0,aA,Aa,r.Hg,Ac,Je]
   by_cases O:(Z.l.length:Int)<=off
   ·simp only[O,aC,Aa,Cy f rfl,Aj Kq]
    exact fin Vb 31 _ (fun _=>rfl) Kq (by unfold jB;rw[aG h4,aG (by omega)])
   ·simp only[O,aA,Aa,O3,Cw g rfl]
    have hj:off.toNat<Z.l.length:=by omega
    obtain⟨j,rfl⟩:∃j:Nat,off=j:=⟨off.toNat,by omega⟩;rw[show(j:Int).toNat=j from rfl]at hj;obtain⟨x,f1,f2,f3⟩:=Bn4 Z.l j L.wf hj;rw[r.ix hj];simp only[Cy (r.block (by omega)) rfl,f3,Aa];refine fin x 0 _ (fun _=>rfl) f2 ?_;unfold jB;rw[aG h4,aI (by omega),show(j:Int).toNat=j from rfl,f1];rfl
theorem Fg.put{z q:Nat}{size:Int}{Z:Zn}(f:Fg h z q size Z){s:EV}(g:h.get z=some (.cells [s,I size,I Z.safe,I Z.st,.bool Z.fin] 202))(safe st:Nat)(fin:Bool):
 Fg (h.put z (.cells [s,I size,I safe,I st,.bool fin] 202)) z q size ⟨Z.l,safe,st,fin⟩:=by
 obtain⟨s',j,r⟩:=f.Al;rw[g]at j;have:s=s':=by
  have:=gQ j;injection this with a _;exact(List.cons.inj a).1
 subst this;refine⟨⟨s,Ae _ _ _,r.frame fun y=>Af _ ?_⟩,f.wf⟩;exact Az g (r.block y) (by simp)
def Zn.flush(Z:Zn):Zn:={ Z with safe:=Z.l.length }
theorem A3v{z q:Nat}{size:Int}{Z:Zn}(f:Fg h z q size Z)(hb:HB h):
 Ok (Gu K (.ptr z 0) h) fun v h'=>Fg h' z q size Z.flush/\Av (fun i=>i=z) h h'/\HB h':=by
 obtain⟨s,g,r⟩:=f.Al;have j:=hb _ _ g;simp only[Gu,Aa,Cw g rfl,r.Hg];refine Ok.gT g rfl rfl (by show 2<5;decide) ?_;refine .ret ⟨?_,(Av.refl (S:=fun i=>i=z) h).Ar (.inl rfl) j _,hb.put j _⟩;exact f.put g Z.l.length Z.st Z.fin
def Zn.finish(Z:Zn):Zn:={ Z with st:=2,fin:=true }
theorem A0s{z q:Nat}{size:Int}{Z:Zn}(f:Fg h z q size Z)(hb:HB h):
 Ok (Gl K (.ptr z 0) h) fun v h'=>v=I (Kn Z.st)/\Fg h' z q size (if Kn Z.st=0 then Z.finish else Z)/\Av (fun i=>i=z) h h'/\HB h':=by
 obtain⟨s,g,r⟩:=f.Al;have j:=hb _ _ g;simp only[Gl,Xf f,Aa,I,Ac];by_cases y:Kn Z.st=0
 ·simp only[y,aB,aA,Aa,bJ,Nz]
  refine Ok.gT g rfl rfl (by show 3<5;decide) ?_;refine Ok.gT (Ae _ _ _) rfl rfl (by show 4<5;decide) ?_;refine .ret ⟨rfl,?_,((Av.refl (S:=fun i=>i=z) h).Ar (.inl rfl) j _).Ar (.inl rfl) j _,(hb.put j _).put j _⟩;exact(f.put g Z.safe 2 Z.fin).put (Ae _ _ _) Z.safe 2 true
 ·simp only[y,aR,aC,Aa,ak]
  exact .ret ⟨rfl,f,Av.refl _,hb⟩
def Zn.fail(Z:Zn)(st:Nat):Zn:=if st=4\/st=3/\¬Z.st=4 then { Z with st:=st }else Z
theorem A6f{z q:Nat}{size:Int}{Z:Zn}(f:Fg h z q size Z)(hb:HB h)(st:Nat):
 Ok (Hn K (.ptr z 0) (I st) h) fun v h'=>Fg h' z q size (Z.fail st)/\Av (fun i=>i=z) h h'/\HB h':=by
 obtain⟨s,g,r⟩:=f.Al;have j:=hb _ _ g;have yes:(st=4\/st=3/\¬Z.st=4)->Ok (f_ 1 (.ptr z 3) (I st) h fun h=>some (.tuple [],h)) fun v h'=>Fg h' z q size (Z.fail st)/\Av (fun i=>i=z) h h'/\HB h':=by
  intro hc;refine Ok.gT g rfl rfl (by show 3<5;decide) ?_;refine .ret ⟨?_,(Av.refl (S:=fun i=>i=z) h).Ar (.inl rfl) j _,hb.put j _⟩;unfold Zn.fail;rw[aI hc];exact f.put g Z.safe st Z.fin
 have no:¬(st=4\/st=3/\¬Z.st=4)->Ok (some (.tuple [],h)) fun v h'=>Fg h' z q size (Z.fail st)/\Av (fun i=>i=z) h h'/\HB h':=by
  intro hc;refine .ret ⟨?_,Av.refl _,hb⟩;unfold Zn.fail;rw[aG hc];exact f
 simp only[Hn,I,Ac,Aa];by_cases a:st=4
 ·rw[show decide ((st:Int)=4)=true by simp[a]]
  simp only[Aa,Ac,Gc,Ey,E2];exact yes (.inl a)
 ·rw[show decide ((st:Int)=4)=false by simp;omega]
  simp only[Aa,Ac];by_cases b:st=3
  ·rw[show decide ((st:Int)=3)=true by simp[b]]
   simp only[Aa,Ac,Gc,Cw g rfl,I];by_cases c:Z.st=4
   ·rw[show decide (¬(Z.st:Int)=4)=false by simp[c]]
    simp only[Aa,Ac,Ey,E2];exact no (by omega)
   ·rw[show decide (¬(Z.st:Int)=4)=true by simp;omega]
    simp only[Aa,Ac,Ey,E2];exact yes (.inr ⟨b,c⟩)
  ·rw[show decide ((st:Int)=3)=false by simp;omega]
   simp only[Aa,Ac,Gc,Ey,E2];exact no (by omega)
theorem Yy{b sz:Nat}{x:EV}{new:List EV}(j:lenOf x=some n)(f:n<=65536)(hc:O9 h sz n x=some new)(hs:new.length=n*sz)(q:Nat):
 Ok (Eo e sz (.slice b 0 0 0 false) x h) fun v h'=>∃q',Cd h' v q' e sz n new/\Ext h h'/\(0<n->h.next<=q'):=by
 rcases dY n with rfl|hp
 ·have:new = []:=cS.1 (by omega)
  subst this;refine⟨.slice b 0 0 0 false,h,?_,q,.empty _ _ _ _ _,Av.refl _,fun y=>by omega⟩;unfold Eo;simp only[j,G2];rfl
 ·obtain⟨h',e1,r,B,c⟩:=pX (s:=.slice b 0 0 0 false) (q:=q) (e:=e) (.empty h b q e sz) j hp f (cZ _) hc hs
  refine⟨_,h',e1,h.next,?_,c.mono fun i A=>absurd A.1 (bN _),fun _=>aE _⟩;rw[cV]at r;simpa only[bM]using r
section
def Bk(F:Nat->Prop)(h h':Ab):Nat->Prop:=fun i=>F i\/(h.next<=i/\i<h'.next)
theorem Av.grow(a:Av F h h1)(b:Av (Bk F h h1) h1 h2):Av F h h2:=
 a.then b fun i f j=>by
  rcases f with f|f
  ·exact f
  ·omega
theorem Bk.trans(a:h.next<=h1.next)(b:h1.next<=h2.next)(g:Bk (Bk F h h1) h1 h2 i):Bk F h h2 i:=by
 rcases g with(g|g)|g
 ·exact .inl g
 ·exact .inr ⟨g.1,by omega⟩
 ·exact .inr ⟨by omega,g.2⟩
theorem Bk.le(b:h1.next<=h2.next)(g:Bk F h h1 i):Bk F h h2 i:=by
 rcases g with g|g
 ·exact .inl g
 ·exact .inr ⟨g.1,by omega⟩
structure Dv where
 n:Nat
 size:Nat
 op:Int
 cnt:Int
 down:Bool
 zs:Nat->Zn
def Bj(l:List Nat):List EV:=l.map fun(b:Nat)=>EV.int .u8 (Int.ofNat b)
def U8(x:List EV):Prop:=∃l:List Nat,(∀b∈l,b<256)/\x=Bj l
theorem U8.zs:U8 Vb:=⟨List.replicate 64 0,fun b hb=>by rw[bO hb];decide,by unfold Bj Vb;rw[gO];rfl⟩
structure Zn.Wf(Z:Zn)(size:Nat):Prop where
 u8:∀x∈Z.l,U8 x
 st:Z.st<=4
 safe:Z.safe<=Z.l.length
 len:Z.l.length<=size
 room:Z.st<2->Z.l.length<size
structure Dv.Wf(D:Dv):Prop where
 size:D.size<=64
 n:D.n<=512
 zs:∀i,i<D.n->(D.zs i).Wf D.size
def A21(V zl n:Nat)(z q:Nat->Nat)(zs:Nat->Zn):Nat->Prop:=fun i=>i=V\/i=zl\/∃d,d<n/\(i=z d\/((zs d).l≠[]/\i=q d))
structure Hh(h:Ab)(V:Nat)(D:Dv)(F:Nat->Prop):Prop where
 wf:D.Wf
 lt:∀i,F i->i<h.next
 Ou:∃zl z q,Lv h V zl D.n z q D.size D.op D.cnt D.down D.zs/\∀i,A21 V zl D.n z q D.zs i->F i
theorem Hh.mono{D:Dv}(d:Hh h V D F)(s:∀i,F i->G i)(l:∀i,G i->i<h.next):Hh h V D G:=by
 obtain⟨zl,z,q,a,b⟩:=d.Ou;exact⟨d.wf,l,zl,z,q,a,fun i f=>s i (b i f)⟩
theorem Bk.lt(l:∀i,F i->i<h.next)(n:h.next<=h'.next):∀i,Bk F h h' i->i<h'.next:=fun i f=>by
 rcases f with f|f
 ·have:=l i f;omega
 ·exact f.2
theorem Hh.grow{D:Dv}(d:Hh h' V D F)(l:∀i,F i->i<h.next)(n:h.next<=h'.next):Hh h' V D (Bk F h h'):=
 d.mono (fun _=>.inl) (Bk.lt l n)
theorem pG {l:List (List EV)}:l≠[]↔0<l.length:=by rw[List.length_pos_iff]
theorem Lv.frame{z q:Nat->Nat}{size:Int}{Zs:Nat->Zn}(d:Lv h V zl n z q size op cnt down Zs)(e:∀i,A21 V zl n z q Zs i->h'.get i=h.get i):Lv h' V zl n z q size op cnt down Zs:=by
 refine⟨d.pos,by rw[e _ (.inl rfl)];exact d.dev,by rw[e _ (.inr (.inl rfl))];exact d.row,fun i f=>?_,d.A7d,d.A8b⟩;obtain⟨s,a,b⟩:=(d.Al i f).Al;exact⟨⟨s,by rw[e _ (.inr (.inr ⟨i,f,.inl rfl⟩))];exact a,b.frame fun j=>e _ (.inr (.inr ⟨i,f,.inr ⟨pG.2 j,rfl⟩⟩))⟩,(d.Al i f).wf⟩
theorem Hh.frame{D:Dv}(d:Hh h V D F)(n:h.next<=h'.next)(e:∀i,F i->h'.get i=h.get i):Hh h' V D F:=by
 obtain⟨zl,z,q,a,b⟩:=d.Ou;exact⟨d.wf,fun i f=>aN (d.lt i f) n,zl,z,q,a.frame fun i f=>e i (b i f),b⟩
theorem Hh.chg{D:Dv}{S:Nat->Prop}(d:Hh h V D F)(c:Av S h h')(n:∀i,F i->¬S i):Hh h' V D F:=
 d.frame c.next fun i f=>c.get i (d.lt i f) (n i f)
theorem Hh.ext{D:Dv}(d:Hh h V D F)(c:Ext h h'):Hh h' V D F:=d.chg c fun _ _=>id
theorem Lv.zR{z q:Nat->Nat}{size:Int}{Zs:Nat->Zn}(d:Lv h V zl n z q size op cnt down Zs)(j:Int)(f:Bool):
 Lv (h.put V (.cells [.slice zl 0 n n true,I size,I op,I j,.bool f] 183)) V zl n z q size op j f Zs:=by
 refine⟨d.pos,Ae _ _ _,?_,fun i y=>?_,d.A7d,d.A8b⟩
 ·rw[Af _ (Az d.dev d.row (by simp))];exact d.row
 ·obtain⟨s,a,b⟩:=(d.Al i y).Al
  refine⟨⟨s,?_,b.frame fun A=>Af _ (Az d.dev (b.block A) (by simp))⟩,(d.Al i y).wf⟩;rw[Af _ (Az d.dev a (by simp))];exact a
def Ik(Zs:Nat->Zn)(d:Nat)(Z:Zn):Nat->Zn:=fun e=>if e=d then Z else Zs e
def lT(q:Nat->Nat)(d x:Nat):Nat->Nat:=fun e=>if e=d then x else q e
theorem Lv.WD{z q:Nat->Nat}{size:Int}{Zs:Nat->Zn}(d:Lv h V zl n z q size op cnt down Zs)(hb:HB h)(U:i<n){Z:Zn}
 (Y:Fg h' (z i) q' size Z) (c:Av (fun j=>j=z i\/((Zs i).l≠[]/\j=q i)) h h') (hq:Z.l≠[]->h.next<=q'\/(q'=q i/\(Zs i).l≠[])) :
 Lv h' V zl n z (lT q i q') size op cnt down (Ik Zs i Z):=by
 obtain⟨si,W,bi⟩:=(d.Al i U).Al;have nq:∀x o,h.get x=some o->(∀l,o≠.vec l 30 64)->¬((Zs i).l≠[]/\x=q i):=by
  rintro x o E B ⟨C,rfl⟩;rw[bi.block (pG.1 C)]at E;cases E;exact B _ rfl
 have Gw:∀x o,h.get x=some o->x≠z i->(∀l,o≠.vec l 30 64)->h'.get x=some o:=fun x o E hn B=>by
  refine c.at hb E ?_;rintro(y|y)
  ·exact hn y
  ·exact nq x o E B y
 refine⟨d.pos,Gw _ _ d.dev (Az d.dev W (by simp)) (by intros;simp),Gw _ _ d.row (Az d.row W (by simp)) (by intros;simp),fun j hj=>?_,d.A7d,?_⟩
 ·by_cases f:j=i
  ·subst f;simp only[lT,Ik,bJ];exact Y
  ·simp only[lT,Ik,f,ak]
   obtain⟨s,a,b⟩:=(d.Al j hj).Al;refine⟨⟨s,Gw _ _ a (fun e=>f (d.A7d j i hj U e)) (by intros;simp),b.frame fun C=>?_⟩,(d.Al j hj).wf⟩;have X:=b.block C;refine c.get _ (hb _ _ X) ?_;rintro(y|⟨J,L⟩)
   ·exact Az X W (by simp) y
   ·exact f (d.A8b j i hj U (pG.2 C) J L)
 ·intro j k hj O
  have lq:∀j,j<n->(Zs j).l≠[]->q j<h.next:=fun j hj C=>by
   obtain⟨s,a,b⟩:=(d.Al j hj).Al;exact hb _ _ (b.block (pG.1 C))
  by_cases f:j=i<;>by_cases A:k=i
  ·intros;omega
  ·subst f;simp only[lT,Ik,A,bJ,ak]
   intro a b e;rcases hq a with y|⟨J,L⟩
   ·have:=lq k O b;omega
   ·exact absurd (d.A8b j k hj O L b (by rw[<-J];exact e)).symm A
  ·subst A;simp only[lT,Ik,f,bJ,ak]
   intro a b e;rcases hq b with y|⟨J,L⟩
   ·have:=lq j hj a;omega
   ·exact absurd (d.A8b j k hj O a L (by rw[<-J];exact e)) f
  ·simp only[lT,Ik,f,A,ak]
   exact d.A8b j k hj O
def Dv.has(D:Dv)(i:Int):Bool:=decide (0<=i/\i<D.n)
def Dv.Fi(D:Dv)(i:Int):Int:=if D.down=true then 34 else if D.has i=false then 13 else 0
noncomputable def Dv.tick(D:Dv):Dv:={ D with cnt:=Dr .i64 (D.cnt+1) }
noncomputable def Dv.begin(D:Dv)(i:Int):Dv:=if D.Fi i=0 then D.tick else D
def Dv.set(D:Dv)(i:Nat)(Z:Zn):Dv:={ D with zs:=Ik D.zs i Z }
section
variable{z q:Nat->Nat}{size:Int}{Zs:Nat->Zn}(d:Lv h V zl n z q size op cnt down Zs)
include d
theorem Lv.list(k:EV->R):Hq (.ptr V 0) h k=k (.slice zl 0 n n true):=by rw[Cw d.dev rfl];rfl
theorem Lv.qQ(f:i<n)(k:EV->R):ir 1 (.slice zl 0 n n true) (I i) (fun v=>Hq v h k)=k (.ptr (z i) 0):=by
 unfold I;rw[Mw f,Cw d.row rfl,bM,bk,bD,cP f];rfl
theorem Ban(i:Int):Gy K (.ptr V 0) (I i) h=some (.bool (decide (0<=i/\i<n)),h):=by
 simp only[Gy,I,Ac,Aa];by_cases h0:0<=i
 ·simp only[h0,aC,Aa,Ac,d.list,Vn,hH]
 ·simp only[h0,aA,Aa,Vn,gk]
end
section
variable{D:Dv}(d:Hh h V D F)(hb:HB h)
include d
theorem tu(i:Int):Gy K (.ptr V 0) (I i) h=some (.bool (D.has i),h):=by
 obtain⟨w,wl,zl,z,q,a,b⟩:=d;exact Ban a i
theorem ZF(i:Int):J7 K (.ptr V 0) (I i) h=some (I (if D.has i=true then(D.zs i.toNat).st else 4),h):=by
 simp only[J7,tu d,Aa];obtain⟨w,wl,zl,z,q,a,b⟩:=d;cases f:D.has i with
 | false=>simp only[Aa,I,aX,ak]
 | true=>
  have:=dH f;obtain⟨j,rfl⟩:∃j:Nat,i=j:=⟨i.toNat,by omega⟩;have hj:j<D.n:=by omega
  simp only[Aa,KD,a.list,a.qQ hj,zQ (a.Al j hj),bJ];rfl
theorem Bcq(i:Int):Qd K (.ptr V 0) (I i) h=some (I (if D.has i=true then(D.zs i.toNat).l.length else 0),h):=by
 simp only[Qd,tu d,Aa];obtain⟨w,wl,zl,z,q,a,b⟩:=d;cases f:D.has i with
 | false=>simp only[Aa,I,aX,ak]
 | true=>
  have:=dH f;obtain⟨j,rfl⟩:∃j:Nat,i=j:=⟨i.toNat,by omega⟩;have hj:j<D.n:=by omega
  simp only[Aa,NG,a.list,a.qQ hj,A8k (a.Al j hj),bJ];rfl
include hb
theorem tC(i:Int):Ok (Hz K (.ptr V 0) (I i) h) fun v h'=>v=I (D.Fi i)/\Hh h' V (D.begin i) F/\Av F h h'/\HB h'/\h'.next=h.next:=by
 have j:=tu (K:=K) d i;obtain⟨w,wl,zl,z,q,a,b⟩:=d;unfold Dv.begin Dv.Fi;simp only[Hz,Aa,Cw a.dev rfl];cases hd:D.down with
 | true=>
  simp only[Aa,bJ,show((34:Int)=0)=False by simp,ak];exact .ret ⟨rfl,⟨w,wl,zl,z,q,a,b⟩,Av.refl _,hb,rfl⟩
 | false=>
  simp only[Aa,j,aX,ak];cases y:D.has i with
  | false=>
   simp only[Aa,bJ,show((13:Int)=0)=False by simp,ak];exact .ret ⟨rfl,⟨w,wl,zl,z,q,a,b⟩,Av.refl _,hb,rfl⟩
  | true=>
   simp only[Aa,fQ,ak,bJ,JV,Cw a.dev rfl,I,Ac];have f:=hb _ _ a.dev;refine Ok.gT a.dev rfl rfl (by show 3<5;decide) ?_;refine .ret ⟨rfl,⟨⟨w.size,w.n,w.zs⟩,wl,zl,z,q,a.zR (Dr .i64 (D.cnt+1)) D.down,b⟩,(Av.refl h).Ar (.inl (b _ (.inl rfl))) f _,hb.put f _,rfl⟩
end
end
variable {dv:Dv}
theorem VE {b:Nat}{s:DX}{call:Ab->R}(hb:Abu b s=true)(f:loose b s.nw = [])(hc:call h.lift=some (v,h.lift)):Ld i b s h call k=k v h (s.big i):=by
 have j:Hs b s h=h.lift:=by unfold Hs;rw[f];rfl
 show Bb (Abu b s) (Ev.Am (call (Hs b s h)) fun v h'=>Mp i b s h h' fun s h=>k v h s) none=_;rw[hb,Ak,j,hc];show Mp i b s h h.lift (fun s h=>k v h s)=_;unfold Mp;rw[aQ (show h.next<=h.lift.mw from aE _),Ak,f];rfl
theorem mN {b:Nat}{s:DX}{call:Ab->R}(hc:call h.lift=some (v,h.lift))(hb:Abu b s=true:=by kernel_rfl)(f:loose b s.nw = []:=by kernel_rfl):Ld i b s h call k=k v h (s.big i):=VE hb f hc
theorem Lv.lift{z q:Nat->Nat}{size:Int}{Zs:Nat->Zn}(d:Lv h V zl n z q size op cnt down Zs):Lv h.lift V zl n z q size op cnt down Zs:=d.frame fun i _=>Bx h i
theorem Hh.lift{D:Dv}(d:Hh h V D F):Hh h.lift V D F:=d.frame (aE _) fun i _=>Bx h i
def Rv(Zs:Nat->Zn)(n:Nat):Nat:=((List.range n).filter fun i=>(Zs i).st=1).length
theorem zd(Zs:Nat->Zn)(n:Nat):Rv Zs (n+1)=Rv Zs n+(if(Zs n).st=1 then 1 else 0):=by
 unfold Rv;rw[dE,fG,aF];congr 1;by_cases hc:(Zs n).st=1<;>simp[hc]
theorem Bny(Zs:Nat->Zn)(n:Nat):Rv Zs n<=n:=by
 unfold Rv;have:=fH (fun i=>decide ((Zs i).st=1)) (List.range n);simpa using this
theorem Bak{z q:Nat->Nat}{size:Int}{Zs:Nat->Zn}(d:Lv h V zl n z q size op cnt down Zs)(hn:n<=512):∀(m i:Nat),n-i<m->i<=n ->
 Ix K m (I (Rv Zs i)) (.slice zl 0 n n true) (I n) (I i) h=some (I (Rv Zs n),h):=by
 intro m;induction m with
 | zero=>intro i hm;omega
 | succ m B=>
  intro i hm C;simp only[Ix,I,Ac,Aa];by_cases j:(i:Int)<n
  ·have y:i<n:=by omega
   have A:=d.qQ y;simp only[I]at A;have hle:=Bny Zs i;simp only[j,aC,Aa,Z2,A,zQ (d.Al i y),I,Ac];have f:=B (i+1) (by omega) (by omega);rw[zd]at f;by_cases h1:(Zs i).st=1
   ·rw[show decide (((Zs i).st:Int)=1)=true by simp[h1]]
    rw[aI h1]at f;simp only[Aa,Ac,Ra];rw[Cl,Cl];exact f
   ·rw[show decide (((Zs i).st:Int)=1)=false by simp;omega]
    rw[aG h1]at f;simp only[Aa,Ac,Ra];rw[Cl];exact f
  ·have:i=n:=by omega
   subst this;simp only[j,aA,Aa,Zp]
theorem Bhi{z q:Nat->Nat}{size:Int}{Zs:Nat->Zn}(d:Lv h V zl n z q size op cnt down Zs)(hn:n<=512)(hK:1000<K):
 P6 K (.ptr V 0) h=some (I (Rv Zs n),h):=by
 simp only[P6,Aa,d.list];exact Bak d hn K 0 (by omega) (cZ _)
noncomputable def Dv.append(D:Dv)(i:Int)(x:List EV):Dv × Int × Int:=
 if D.Fi i≠0 then(D,0,D.Fi i)else
 if(D.zs i.toNat).st=0/\D.op<=Rv D.zs D.n then(D.tick,0,33)else
 if 2<=(D.zs i.toNat).st then(D.tick,0,if(D.zs i.toNat).st=2 then 17 else Kn (D.zs i.toNat).st)else
 (D.tick.set i.toNat ((D.zs i.toNat).app D.size x),(D.zs i.toNat).l.length,0)
theorem Zn.Wf.app {Z:Zn}{size:Nat}(w:Z.Wf size)(hs:Z.st<2)(j:U8 x):(Z.app size x).Wf size:=by
 have:=w.room hs;have:=w.safe;refine⟨fun y f=>?_,?_,?_,?_,?_⟩<;>try simp only[Zn.app,aF,List.length_singleton]
 ·rcases bR.1 f with f|f
  ·exact w.u8 y f
  ·rw[aP.1 f];exact j
 ·split<;>omega
 ·omega
 ·omega
 ·split<;>omega
theorem Dv.Wf.set {D:Dv}(w:D.Wf){Z:Zn}(z:Z.Wf D.size):(D.set i Z).Wf:=by
 refine⟨w.size,w.n,fun j hj=>?_⟩;show(Ik D.zs i Z j).Wf D.size;unfold Ik;split
 ·exact z
 ·exact w.zs j hj
theorem Hh.Al{D:Dv}(w:D.Wf){z q:Nat->Nat}(a:Lv h V zl D.n z q D.size D.op D.cnt D.down D.zs)(b:∀i,A21 V zl D.n z q D.zs i->F i)(wl:∀i,F i->i<h.next)(hb:HB h)(C:i<D.n){Z:Zn}
 (O:Z.Wf D.size) (J:Fg h' (z i) q' D.size Z) (c:Av (fun j=>j=z i\/((D.zs i).l≠[]/\j=q i)) h h') (E:HB h') (hq:Z.l≠[]->h.next<=q'\/(q'=q i/\(D.zs i).l≠[])) :
 Hh h' V (D.set i Z) (Bk F h h')/\Av F h h':=by
 have L:∀j,(j=z i\/((D.zs i).l≠[]/\j=q i))->F j:=by
  rintro j (y|⟨f,A⟩)
  ·exact b j (.inr (.inr ⟨i,C,.inl y⟩))
  ·exact b j (.inr (.inr ⟨i,C,.inr ⟨f,A⟩⟩))
 refine⟨⟨w.set O,Bk.lt wl c.next,zl,z,_,a.WD hb C J c hq,?_⟩,c.mono L⟩;rintro j (y|y|⟨d,hd,y⟩)
 ·exact .inl (b j (.inl y))
 ·exact .inl (b j (.inr (.inl y)))
 ·rcases y with y|⟨f,A⟩
  ·exact .inl (b j (.inr (.inr ⟨d,hd,.inl y⟩)))
  ·by_cases B:d=i
   ·subst B
    simp only[Dv.set,Ik,lT,bJ]at f A;subst A;rcases hq f with y|⟨U,W⟩
    ·obtain⟨s,_,r⟩:=J.Al
     exact .inr ⟨y,E _ _ (r.block (pG.1 f))⟩
    ·rw[U];exact .inl (L _ (.inr ⟨W,rfl⟩))
   ·simp only[Dv.set,Ik,lT,B,ak]at f A
    exact .inl (b j (.inr (.inr ⟨d,hd,.inr ⟨f,A⟩⟩)))
theorem A20{D:Dv}(d:Hh h V D F)(hb:HB h)(hK:1000<K)(i:Int)(hx:x.length=64)(hu:U8 x):
 Ok (Ps K (.ptr V 0) (I i) (.agg x) h) fun v h'=>v=.tuple [I (D.append i x).2.1,I (D.append i x).2.2]/\Hh h' V (D.append i x).1 (Bk F h h')/\Av F h h'/\HB h':=by
 simp only[Ps,Aa];have x1:Ext h (h.new (.cells x 30)):=Av.new _ _;have L:(h.new (.cells x 30)).get h.next=some (.cells x 30):=Ad _ _
 have E:HB (h.new (.cells x 30)):=hb.new _;have d1:=d.ext x1;have n1:(h.new (.cells x 30)).next=h.next+1:=rfl
 generalize h.new (.cells x 30)=h1 at x1 L E d1 n1⊢;refine(tC (K:=K) d1 E i).Am ?_;rintro _ h2 ⟨rfl,d2,c2,A,n2⟩;have nx:¬F h.next:=fun y=>bN _ (d.lt _ y)
 have L:=c2.at E L nx;have B:Av F h h2:=(Ext.to x1).trans c2;unfold Dv.append;unfold Dv.begin at d2;by_cases f:D.Fi i=0
 ·rw[aI f]at d2
  rw[aG (by rw[f];exact fun y=>y rfl),f];simp only[I,Ac,aB,aA,Aa,Zr];obtain⟨w,wl,zl,z,q,a,b⟩:=d2;have O:D.has i=true:=by
   unfold Dv.Fi at f;cases hh:D.has i with
   | true=>rfl
   | false=>rw[hh]at f;split at f<;>simp at f
  have:=dH O;obtain⟨j,rfl⟩:∃j:Nat,i=j:=⟨i.toNat,by omega⟩;have hj:j<D.n:=by omega
  rw[show(j:Int).toNat=j from rfl];have lV:=A _ _ a.dev;have U:=A _ _ a.row;have l5:=A _ _ L;have lz:=A _ _ (a.Al j hj).Al.choose_spec.1;have W:∀k:EV->R,Hq (.ptr zl j) h2 k=k (.ptr (z j) 0):=fun k=>by
   have:=a.qQ hj k;unfold I at this;rw[Mw (show j<D.tick.n from hj),bM,bk]at this;exact this
  have X:∀k:EV->R,ir 1 (.slice zl 0 D.tick.n D.tick.n true) (.int .i64 (j:Int)) k=k (.ptr zl j):=fun k=>by
   rw[Mw (show j<D.tick.n from hj),bM,bk]
  simp only[Aa,As,Cp lV,a.list,X,Cp U,W];rw[mN (zQ (a.lift.Al j hj))];have ah:=Bhi (K:=K) a.lift w.n hK;have dd:∀h',Ext h2 h'->Hh h' V D.tick (Bk F h h')/\Av F h h'/\HB h':=fun h' x'=>⟨(Hh.ext ⟨w,wl,zl,z,q,a,b⟩ x').grow d.lt (by have:=B.next;have:=x'.next;omega),B.trans (Ext.to x'),x'.hb A⟩
  have app:¬((D.zs j).st=0/\D.op<=Rv D.zs D.n)->Ok (Q7 K (.ptr V 0) (I j) (.ptr h.next 0) h2) fun v h'=>v=.tuple [I (if(D.zs j).st=0/\D.op<=Rv D.zs D.n then(D.tick,0,33)else if 2<=(D.zs j).st then(D.tick,0,if(D.zs j).st=2 then 17 else Kn (D.zs j).st)else(D.tick.set j ((D.zs j).app D.size x),((D.zs j).l.length:Int),(0:Int))).2.1,I (if(D.zs j).st=0/\D.op<=Rv D.zs D.n then(D.tick,0,33)else if 2<=(D.zs j).st then(D.tick,0,if(D.zs j).st=2 then 17 else Kn (D.zs j).st)else(D.tick.set j ((D.zs j).app D.size x),((D.zs j).l.length:Int),(0:Int))).2.2]/\Hh h' V (if(D.zs j).st=0/\D.op<=Rv D.zs D.n then(D.tick,0,33)else if 2<=(D.zs j).st then(D.tick,0,if(D.zs j).st=2 then 17 else Kn (D.zs j).st)else(D.tick.set j ((D.zs j).app D.size x),((D.zs j).l.length:Int),(0:Int))).1 (Bk F h h')/\Av F h h'/\HB h':=by
   intro ai;rw[aG ai];simp only[Q7,I,Aa,As,Cp lV,a.list,X,Cp U,W,Cp l5,Cy L rfl,Aj hx];have wz:=w.zs j hj;have al:=w.size;have ao:=wz.len;by_cases J:2<=(D.zs j).st
   ·rw[aI J]
    refine Ok.bE (A2i (K:=K) (a.lift.Al j hj) (C8 A) J wz.st x) (fun _ _ p=>p.2) ?_;rintro _ h3 h4 ⟨rfl,_⟩ sm x4;simp only[Aa];exact .ret ⟨rfl,dd h4 x4⟩
   ·rw[aG J]
    have C:(D.zs j).st<2:=by omega
    refine Ok.rq (S:=fun i=>i=z j\/(0<(D.zs j).l.length/\i=q j)) (by kernel_rfl) (by kernel_rfl) (fun _=>by kernel_rfl) (A0w (K:=K) (size:=D.size) (a.lift.Al j hj) (C8 A) C (bQ ao al) hx) (fun _ _ p=>p.2.2.1) ?_;rintro _ h3 h4 s' ⟨rfl,⟨q',zz,Y⟩,_,aq⟩ sm c4 _;simp only[Aa];have aa:=sm.hb aq;have au:Fg h4 (z j) q' D.size ((D.zs j).app D.size x):=zz.ext fun i o g=>by rw[sm.get];exact g
    obtain⟨d4,ab⟩:=Hh.Al w a b wl A hj (wz.app C hu) au (c4.mono fun i hi=>by
     rcases hi with y|⟨y1,y2⟩
     ·exact .inl y
     ·exact .inr ⟨pG.2 y1,y2⟩) aa (fun _=>.inl (by rw[rS]at Y;exact Y))
    refine .ret ⟨rfl,?_,B.trans ab,aa⟩;refine d4.mono (fun i hi=>?_) (Bk.lt d.lt (B.trans ab).next);rcases hi with y|y
    ·exact .inl y
    ·exact .inr ⟨bQ B.next y.1,y.2⟩
  simp only[I,Ac];by_cases h0:(D.zs j).st=0
  ·rw[show decide (((D.tick.zs j).st:Int)=0)=true from aM (by show((D.zs j).st:Int)=0;omega)]
   simp only[Aa,Ac];rw[mN ah];rw[Hb lV,Cw a.dev rfl];simp only[Aa,I,Ac,Mn];by_cases ho:D.op<=Rv D.zs D.n
   ·rw[show decide (D.tick.op<=((Rv D.tick.zs D.tick.n:Nat):Int))=true from aM ho]
    simp only[Aa];rw[aI ⟨h0,ho⟩];exact .ret ⟨rfl,dd h2 (Av.refl _)⟩
   ·rw[show decide (D.tick.op<=((Rv D.tick.zs D.tick.n:Nat):Int))=false from aJ ho]
    simp only[Aa];exact app fun y=>ho y.2
  ·rw[show decide (((D.tick.zs j).st:Int)=0)=false from aJ (by show ¬((D.zs j).st:Int)=0;omega)]
   simp only[Aa,Ac,Mn];exact app fun y=>h0 y.1
 ·rw[aG f]at d2
  rw[aI f];simp only[I,Ac,f,aR,aC,Aa];exact .ret ⟨rfl,d2.grow d.lt B.next,B,A⟩
def Dv.read(D:Dv)(i off:Int):List EV × Int:=if D.Fi i≠0 then(Vb,D.Fi i)else jB (D.zs i.toNat) off
theorem Dv.tD {D:Dv}{i:Int}(f:D.Fi i=0):∃j:Nat,i=j/\j<D.n:=by
 have y:D.has i=true:=by
  unfold Dv.Fi at f;cases A:D.has i with
  | true=>rfl
  | false=>rw[A]at f;split at f<;>simp at f
 have:=dH y;exact⟨i.toNat,by omega,by omega⟩
theorem Lv.qW{z q:Nat->Nat}{size:Int}{Zs:Nat->Zn}(d:Lv h V zl n z q size op cnt down Zs){j:Nat}(hj:j<n):
 (∀k:EV->R,ir 1 (.slice zl 0 n n true) (.int .i64 (j:Int)) k=k (.ptr zl j))/\(∀k:EV->R,Hq (.ptr zl j) h k=k (.ptr (z j) 0)):=by
 have f:∀k:EV->R,ir 1 (.slice zl 0 n n true) (.int .i64 (j:Int)) k=k (.ptr zl j):=fun k=>by
  rw[Mw hj,bM,bk]
 refine⟨f,fun k=>?_⟩;have:=d.qQ hj k;unfold I at this;rw[f]at this;exact this
theorem Ba8{D:Dv}(d:Hh h V D F)(hb:HB h)(i off:Int):
 Ok (Ts K (.ptr V 0) (I i) (I off) h) fun v h'=>v=.tuple [.agg (D.read i off).1,I (D.read i off).2]/\(D.read i off).1.length=64/\Hh h' V (D.begin i) (Bk F h h')/\Av F h h'/\HB h':=by
 simp only[Ts,Aa];have U:Ext h (h.new (.cells (List.replicate 64 (.int .u8 0)) 30)):=Av.new _ _;have L:(h.new (.cells (List.replicate 64 (.int .u8 0)) 30)).get h.next=some (.cells Vb 30):=Ad _ _
 have B:HB (h.new (.cells (List.replicate 64 (.int .u8 0)) 30)):=hb.new _;have d1:=d.ext U;generalize h.new (.cells (List.replicate 64 (.int .u8 0)) 30)=h1 at U L B d1⊢;refine(tC (K:=K) d1 B i).Am ?_;rintro _ h2 ⟨rfl,d2,c2,C,n2⟩;have nx:¬F h.next:=fun y=>bN _ (d.lt _ y)
 have L:=c2.at B L nx;have W:Av F h h2:=(Ext.to U).trans c2;have fin:∀(l:List EV) (e:Int) (A:Ab),Ext h2 A->l.length=64->Ok (f_ 64 (.ptr h.next 0) (.agg l) A fun h=>Jk TT [.c (.ptr h.next 0) 30,.v (I e)] h) (fun _ _=>True)->True:=fun _ _ _ _ _ _=>trivial
 clear fin;have fin:∀(l:List EV) (e:Int) (A:Ab) (X:Ab->R),(∀h',X h'=Jk TT [.c (.ptr h.next 0) 30,.v (I e)] h')->Ext h2 A->l.length=64->(l,e)=D.read i off->Ok (f_ 64 (.ptr h.next 0) (.agg l) A X) fun v h'=>v=.tuple [.agg (D.read i off).1,I (D.read i off).2]/\(D.read i off).1.length=64/\Hh h' V (D.begin i) (Bk F h h')/\Av F h h'/\HB h':=by
  intro l e A X Y E O he;have J:=E.hb C;have g3:=E.at C L;refine Ok.st l g3 rfl (by rw[show EV.cells (.agg l)=l from rfl,Bh,O]) (Bn (by rw[Kq];exact O.symm)) ?_;rw[Y,Ej (Ae _ _ _) kz.1 kz.2 O,<-he];have l3:=J _ _ g3;have c3:Av F h (A.put h.next (.cells l 30)):=(W.trans (Ext.to E)).Ar (.inr (aE _)) l3 _;refine .ret ⟨rfl,O,?_,c3,J.put l3 _⟩;refine(((d2.ext E).frame (h':=A.put h.next (.cells l 30)) (aE _) fun j hj=>Af _ fun y=>?_)).grow d.lt c3.next
  subst y;exact nx hj
 unfold Dv.read at fin⊢;by_cases f:D.Fi i=0
 ·rw[aG (by rw[f];exact fun y=>y rfl)]at fin⊢
  have aa:D.begin i=D.tick:=by unfold Dv.begin;rw[aI f]
  rw[aa]at d2 fin⊢;rw[f];obtain⟨j,rfl,hj⟩:=Dv.tD f;obtain⟨zl,z,q,a,b⟩:=d2.Ou;obtain⟨ab,ad⟩:=a.qW (j:=j) hj;simp only[I,Ac,aB,aA,Aa,KN,a.list,ab,ad];refine(A50 (K:=K) (a.Al j hj) C off).Am ?_;rintro _ A ⟨rfl,E⟩;simp only[Aa];exact fin _ _ A _ (fun _=>rfl) E (Bii (a.Al j hj).wf off) rfl
 ·rw[aI f]at fin⊢
  simp only[I,Ac,f,aR,aC,Aa];rw[Ax (l:=Vb) rfl];exact fin Vb (D.Fi i) h2 _ (fun _=>rfl) (Av.refl _) Kq rfl
noncomputable def Dv.finish(D:Dv)(i:Int):Dv × Int:=
 if D.Fi i≠0 then(D,D.Fi i)else
 (if Kn (D.zs i.toNat).st=0 then D.tick.set i.toNat (D.zs i.toNat).finish else D.tick,Kn (D.zs i.toNat).st)
theorem Zn.Wf.finish {Z:Zn}{size:Nat}(w:Z.Wf size):Z.finish.Wf size:=⟨w.u8,by show 2<=4;omega,w.safe,w.len,fun y=>absurd y (by show ¬2<2;omega)⟩
theorem A3r{D:Dv}(d:Hh h V D F)(hb:HB h)(i:Int):
 Ok (Py K (.ptr V 0) (I i) h) fun v h'=>v=I (D.finish i).2/\Hh h' V (D.finish i).1 (Bk F h h')/\Av F h h'/\HB h':=by
 simp only[Py,dr];refine(tC (K:=K) d hb i).Am ?_;rintro _ h2 ⟨rfl,d2,c2,B,Y⟩;unfold Dv.finish;by_cases f:D.Fi i=0
 ·rw[aG (by rw[f];exact fun y=>y rfl),f]
  have E:D.begin i=D.tick:=by unfold Dv.begin;rw[aI f]
  rw[E]at d2;obtain⟨j,rfl,hj⟩:=Dv.tD f;obtain⟨zl,z,q,a,b⟩:=d2.Ou;obtain⟨L,O⟩:=a.qW (j:=j) hj;simp only[I,Ac,aB,aA,Aa,Zt,a.list,L,O];refine(A0s (K:=K) (a.Al j hj) B).Am ?_;rintro _ U ⟨rfl,J,c3,C⟩
  try simp only[Aa]
  rw[show(j:Int).toNat=j from rfl];have J:Fg U (z j) (q j) D.size (if Kn (D.zs j).st=0 then(D.zs j).finish else D.zs j):=J;by_cases W:Kn (D.zs j).st=0
  ·simp only[W,bJ]at J⊢
   obtain⟨d3,A⟩:=Hh.Al d2.wf a b d2.lt B hj (d2.wf.zs j hj).finish J (c3.mono fun _=>.inl) C (fun y=>.inr ⟨rfl,y⟩);refine .ret ⟨by rw[show Kn (D.tick.zs j).st=Kn (D.zs j).st from rfl,W],d3.mono (fun i X=>?_) (Bk.lt d.lt (c2.trans A).next),c2.trans A,C⟩;rcases X with y|y
   ·exact .inl y
   ·exact .inr ⟨bQ c2.next y.1,y.2⟩
  ·simp only[W,ak]at J⊢
   obtain⟨d3,A⟩:=Hh.Al d2.wf a b d2.lt B hj (d2.wf.zs j hj) J (c3.mono fun _=>.inl) C (fun y=>.inr ⟨rfl,y⟩);have e:D.tick.set j (D.zs j)=D.tick:=by
    unfold Dv.set;have:Ik D.tick.zs j (D.zs j)=D.tick.zs:=by funext k;unfold Ik;split<;>simp_all [Dv.tick]
    rw[this]
   have d3:Hh U V (D.tick.set j (D.zs j)) (Bk F h2 U):=d3;rw[e]at d3;refine .ret ⟨rfl,d3.mono (fun i X=>?_) (Bk.lt d.lt (c2.trans A).next),c2.trans A,C⟩;rcases X with y|y
   ·exact .inl y
   ·exact .inr ⟨bQ c2.next y.1,y.2⟩
 ·rw[aI f]
  have E:D.begin i=D:=by unfold Dv.begin;rw[aG f]
  rw[E]at d2;simp only[I,Ac,f,aR,aC,Aa];exact .ret ⟨rfl,d2.grow d.lt c2.next,c2,B⟩
noncomputable def Dv.WE(D:Dv):Dv:={ D with down:=true }
theorem A7s{D:Dv}(d:Hh h V D F)(hb:HB h):
 Ok (Rl K (.ptr V 0) h) fun v h'=>Hh h' V D.WE F/\Av F h h'/\HB h':=by
 obtain⟨w,wl,zl,z,q,a,b⟩:=d;simp only[Rl,Aa];have f:=hb _ _ a.dev;refine Ok.gT a.dev rfl rfl (by show 4<5;decide) ?_;exact .ret ⟨⟨⟨w.size,w.n,w.zs⟩,wl,zl,z,q,a.zR D.cnt true,b⟩,(Av.refl h).Ar (.inl (b _ (.inl rfl))) f _,hb.put f _⟩
structure jC(h:Ab)(V zl:Nat)(z:Nat->Nat)(D:Dv)(F:Nat->Prop):Prop where
 wf:D.Wf
 lt:∀i,F i->i<h.next
 Ou:∃q,Lv h V zl D.n z q D.size D.op D.cnt D.down D.zs/\∀i,A21 V zl D.n z q D.zs i->F i
theorem Hh.z{D:Dv}(d:Hh h V D F):∃zl z,jC h V zl z D F:=by
 obtain⟨zl,z,q,a,b⟩:=d.Ou;exact⟨zl,z,d.wf,d.lt,q,a,b⟩
theorem jC.s{z:Nat->Nat}{D:Dv}(d:jC h V zl z D F):Hh h V D F:=by
 obtain⟨q,a,b⟩:=d.Ou;exact⟨d.wf,d.lt,zl,z,q,a,b⟩
theorem jC.mono{z:Nat->Nat}{D:Dv}(d:jC h V zl z D F)(s:∀i,F i->G i)(l:∀i,G i->i<h.next):jC h V zl z D G:=by
 obtain⟨q,a,b⟩:=d.Ou;exact⟨d.wf,l,q,a,fun i f=>s i (b i f)⟩
theorem jC.congr{z:Nat->Nat}{D:Dv}(d:jC h V zl z D F){zs':Nat->Zn}(e:∀i,i<D.n->zs' i=D.zs i):jC h V zl z { D with zs:=zs' } F:=by
 obtain⟨q,a,b⟩:=d.Ou;refine⟨⟨d.wf.size,d.wf.n,fun i f=>?_⟩,d.lt,q,⟨a.pos,a.dev,a.row,fun i f=>?_,a.A7d,fun i j f hj=>?_⟩,?_⟩
 ·show(zs' i).Wf _;rw[e i f];exact d.wf.zs i f
 ·show Fg _ _ _ _ (zs' i);rw[e i f];exact a.Al i f
 ·show(zs' i).l≠[]->(zs' j).l≠[]->_;rw[e i f,e j hj];exact a.A8b i j f hj
 ·rintro i (y|y|⟨k,A,y⟩)
  ·exact b i (.inl y)
  ·exact b i (.inr (.inl y))
  ·refine b i (.inr (.inr ⟨k,A,?_⟩))
   have y:i=z k\/(zs' k).l≠[]/\i=q k:=y;rw[e k A]at y;exact y
theorem jC.Al{z:Nat->Nat}{D:Dv}(d:jC h V zl z D F){q:Nat->Nat}(a:Lv h V zl D.n z q D.size D.op D.cnt D.down D.zs)(b:∀i,A21 V zl D.n z q D.zs i->F i)(hb:HB h)(C:i<D.n){Z:Zn}
 (O:Z.Wf D.size) (J:Fg h' (z i) q' D.size Z) (c:Av (fun j=>j=z i\/((D.zs i).l≠[]/\j=q i)) h h') (E:HB h') (hq:Z.l≠[]->h.next<=q'\/(q'=q i/\(D.zs i).l≠[])) :
 jC h' V zl z (D.set i Z) (Bk F h h')/\Av F h h':=by
 have L:∀j,(j=z i\/((D.zs i).l≠[]/\j=q i))->F j:=by
  rintro j (y|⟨f,A⟩)
  ·exact b j (.inr (.inr ⟨i,C,.inl y⟩))
  ·exact b j (.inr (.inr ⟨i,C,.inr ⟨f,A⟩⟩))
 refine⟨⟨d.wf.set O,Bk.lt d.lt c.next,_,a.WD hb C J c hq,?_⟩,c.mono L⟩;rintro j (y|y|⟨d,hd,y⟩)
 ·exact .inl (b j (.inl y))
 ·exact .inl (b j (.inr (.inl y)))
 ·rcases y with y|⟨f,A⟩
  ·exact .inl (b j (.inr (.inr ⟨d,hd,.inl y⟩)))
  ·by_cases B:d=i
   ·subst B
    simp only[Dv.set,Ik,lT,bJ]at f A;subst A;rcases hq f with y|⟨U,W⟩
    ·obtain⟨s,_,r⟩:=J.Al
     exact .inr ⟨y,E _ _ (r.block (pG.1 f))⟩
    ·rw[U];exact .inl (L _ (.inr ⟨W,rfl⟩))
   ·simp only[Dv.set,Ik,lT,B,ak]at f A
    exact .inl (b j (.inr (.inr ⟨d,hd,.inr ⟨f,A⟩⟩)))
def oh(f:Nat->Zn->Zn)(zs:Nat->Zn)(i:Nat):Nat->Zn:=fun j=>if j<i then f j (zs j)else zs j
theorem Bcf(f:Nat->Zn->Zn)(zs:Nat->Zn)(i:Nat):oh f zs (i+1)=Ik (oh f zs i) i (f i (zs i)):=by
 funext j;unfold oh Ik;by_cases h1:j=i
 ·subst h1;simp
 ·by_cases h2:j<i
  ·rw[aI (by omega),aG h1];exact(aI h2).symm
  ·rw[aG (by omega),aG h1];exact(aG h2).symm
theorem WG(f:Nat->Zn->Zn)(zs:Nat->Zn)(i:Nat):oh f zs i i=zs i:=by unfold oh;rw[aG (by omega)]
noncomputable def Dv.flush(D:Dv):Dv × Int:=if D.down=true then(D,34)else({ D.tick with zs:=fun i=>(D.zs i).flush },0)
theorem Zn.Wf.flush {Z:Zn}{size:Nat}(w:Z.Wf size):Z.flush.Wf size:=⟨w.u8,w.st,aE _,w.len,w.room⟩
theorem Bdh{z:Nat->Nat}{D:Dv}(h0:Ab)(C:∀j,F j->j<h0.next):∀(m i:Nat) (h:Ab),D.n-i<m->i<=D.n->HB h->Av F h0 h->jC h V zl z { D with zs:=oh (fun _ Z=>Z.flush) D.zs i } (Bk F h0 h) ->
 Ok (Ju K m (.slice zl 0 D.n D.n true) (I D.n) (I i) h) fun v h'=>v=I 0/\jC h' V zl z { D with zs:=oh (fun _ Z=>Z.flush) D.zs D.n } (Bk F h0 h')/\Av F h0 h'/\HB h':=by
 intro m;induction m with
 | zero=>intro i h hm;omega
 | succ m W=>
  intro i h hm Y hb c d;have hn:=d.wf.n;have hn:D.n<=512:=hn;simp only[Ju,I,Ac,Aa];by_cases A:(i:Int)<D.n
  ·have f:i<D.n:=by omega
   obtain⟨q,a,b⟩:=d.Ou;obtain⟨E,J⟩:=a.qW (j:=i) f;simp only[A,aC,Aa,JM,E,J];have O:=a.Al i f;have U:=d.wf.zs i f;simp only[WG]at O U;refine(A3v (K:=K) O hb).Am ?_;rintro _ h1 ⟨X,c1,B⟩;simp only[JL,I,Ac];rw[Cl];obtain⟨d1,L⟩:=d.Al a b hb f U.flush X (c1.mono fun _=>.inl) B (fun y=>.inr ⟨rfl,by simp only[WG];exact y⟩);have c2:=c.grow L;refine W (i+1) h1 (by omega) (by omega) B c2 ?_;rw[Bcf];exact d1.mono (fun j hj=>Bk.trans c.next c1.next hj) (Bk.lt C c2.next)
  ·have:i=D.n:=by omega
   subst this;simp only[A,aA,Aa,JK];exact .ret ⟨rfl,d,c,hb⟩
theorem A7i{D:Dv}(d:Hh h V D F)(hb:HB h)(hK:1000<K):
 Ok (Rz K (.ptr V 0) h) fun v h'=>v=I D.flush.2/\Hh h' V D.flush.1 (Bk F h h')/\Av F h h'/\HB h':=by
 obtain⟨w,wl,zl,z,q,a,b⟩:=d;have hn:=w.n;unfold Dv.flush;simp only[Rz,Aa,Cw a.dev rfl];cases hd:D.down with
 | true=>
  simp only[Aa,bJ];exact .ret ⟨rfl,Hh.grow ⟨w,wl,zl,z,q,a,b⟩ wl (aE _),Av.refl _,hb⟩
 | false=>
  simp only[Aa,aX,ak,JN,Cw a.dev rfl,I,Ac];have y:=hb _ _ a.dev;refine Ok.gT a.dev rfl rfl (by show 3<5;decide) ?_;have c1:Av F h (h.put V (.cells ([EV.slice zl 0 D.n D.n true,I D.size,I D.op,I D.cnt,.bool D.down].set 3 (.int .i64 (Dr .i64 (D.cnt+1)))) 183)):=(Av.refl h).Ar (.inl (b _ (.inl rfl))) y _;have f:HB (h.put V (.cells ([EV.slice zl 0 D.n D.n true,I D.size,I D.op,I D.cnt,.bool D.down].set 3 (.int .i64 (Dr .i64 (D.cnt+1)))) 183)):=hb.put y _;have d1:jC (h.put V (.cells ([EV.slice zl 0 D.n D.n true,I D.size,I D.op,I D.cnt,.bool D.down].set 3 (.int .i64 (Dr .i64 (D.cnt+1)))) 183)) V zl z D.tick F:=⟨⟨w.size,w.n,w.zs⟩,wl,q,a.zR (Dr .i64 (D.cnt+1)) D.down,b⟩;generalize h.put V (.cells ([EV.slice zl 0 D.n D.n true,I D.size,I D.op,I D.cnt,.bool D.down].set 3 (.int .i64 (Dr .i64 (D.cnt+1)))) 183)=h1 at c1 f d1⊢;obtain⟨C,A,b1⟩:=d1.Ou;rw[Cw A.dev rfl];simp only[Aa];have:=Bdh (K:=K) (D:=D.tick) (F:=F) h wl K 0 h1 (by show D.n-0<K;omega) (cZ _) f c1 (jC.congr (d1.mono (fun _=>.inl) (Bk.lt wl c1.next)) (fun i _=>by unfold oh;rw[aG (cI _)]));refine this.mono ?_;rintro v h2 ⟨rfl,d2,c2,j⟩;refine⟨rfl,?_,c2,j⟩;exact(d2.congr (zs':=fun i=>(D.zs i).flush) fun i B=>(aI B).symm).s
def Dv.fail(D:Dv)(i:Int)(st:Nat):Dv:=if D.has i=true then D.set i.toNat ((D.zs i.toNat).fail st)else D
theorem Zn.Wf.fail {Z:Zn}{size:Nat}(w:Z.Wf size)(st:Nat):(Z.fail st).Wf size:=by
 unfold Zn.fail;split
 ·exact⟨w.u8,by show st<=4;omega,w.safe,w.len,fun y=>absurd y (by show ¬st<2;omega)⟩
 ·exact w
theorem A9k{D:Dv}(d:Hh h V D F)(hb:HB h)(i:Int)(st:Nat):
 Ok (O2 K (.ptr V 0) (I i) (I st) h) fun v h'=>Hh h' V (D.fail i st) (Bk F h h')/\Av F h h'/\HB h':=by
 simp only[O2,tu d,Aa];unfold Dv.fail;cases E:D.has i with
 | false=>
  simp only[Aa,aX,ak];exact .ret ⟨d.grow d.lt (aE _),Av.refl _,hb⟩
 | true=>
  have:=dH E;obtain⟨j,rfl⟩:∃j:Nat,i=j:=⟨i.toNat,by omega⟩;have hj:j<D.n:=by omega
  obtain⟨zl,z,q,a,b⟩:=d.Ou;obtain⟨A,B⟩:=a.qW (j:=j) hj;simp only[Aa,bJ,KC,a.list];unfold I;rw[A,B];refine(A6f (K:=K) (a.Al j hj) hb st).Am ?_;rintro _ L ⟨J,c3,f⟩;obtain⟨d3,C⟩:=Hh.Al d.wf a b d.lt hb hj ((d.wf.zs j hj).fail st) J (c3.mono fun _=>.inl) f (fun y=>.inr ⟨rfl,by
   unfold Zn.fail at y;split at y<;>exact y⟩)
  exact .ret ⟨d3,C,f⟩
def kp(a b:Int):EV:=.agg [I a,I b]
def Amg(ms:List (EV × EV)):Prop:=∀e∈ms,∃a b p n,e=(kp a b,.agg (p++[I n]))/\U8 p/\p.length=64
theorem qV(a b:Int):jO (I a) (I b)=some (decide (a=b)):=by
 show Bb (Nat.beq (Pc .i64) (Pc .i64)) (some (iN a b)) none=_;rw[cQ,Ak,lI]
theorem Blk(a b c d:Int):mI (kp a b) (kp c d)=some (decide (a=c/\b=d)):=by
 show E8 [I a,I b] [I c,I d]=_;unfold E8;rw[qV];by_cases h1:a=c
 ·rw[aM h1]
  simp only[E8,qV];by_cases h2:b=d
  ·rw[aM h2,aM ⟨h1,h2⟩]
  ·rw[aJ h2,aJ fun y=>h2 y.2]
 ·rw[aJ h1,aJ fun y=>h1 y.1]
  simp only[E8,qV];by_cases h2:b=d
  ·rw[aM h2]
  ·rw[aJ h2]
theorem vW(a b:Int):∀(ms:List (EV × EV)) (i:Nat),Amg ms->H0 (kp a b) ms i=some none\/∃j p n,H0 (kp a b) ms i=some (some (j,.agg (p++[I n])))/\U8 p/\p.length=64
 | [],i,_=>.inl rfl
 | (x,y)::r,i,hm=>by
  obtain⟨f,A,p,n,e,hp,B⟩:=hm _ (aW ..);cases e;have C:=vW a b r (Nat.succ i) fun e he=>hm e (aU _ he)
  unfold H0;rw[Blk];by_cases hc:a=f/\b=A
  ·rw[aM hc];exact .inr ⟨i,p,n,rfl,hp,B⟩
  ·rw[aJ hc];exact C
theorem zS(a b:Int):Ot TT 227 (kp a b)=true:=by
 have h1:TT.key 227=true:=by kernel_rfl
 have h2:TT.eqs 227=some [0,0]:=by kernel_rfl
 unfold Ot kp;simp only[h1,h2,Ak];rw[show shaped [0,0] [I a,I b]=true from rfl,Ak];simp only[E8,qV,aC]
theorem WH{M:Nat}(f:h.get M=some (.map ms))(hm:Amg ms)(a b:Int):∃je,builtin TT .delete #[140,227] [.map M,kp a b] h=some (.tuple [],h.put M (.map je))/\Amg je:=by
 have hu:TT.Tv 140=some (.map 227 246):=by kernel_rfl
 have e:builtin TT .delete #[140,227] [.map M,kp a b] h=Bb (Ot TT 227 (kp a b)) (match h.get M with
  | some (.map es)=>match H0 (kp a b) es 0 with
   | some (some (j,_))=>some (.tuple [],h.put M (.map (es.eraseIdx j)))
   | some none=>some (.tuple [],h.put M (.map es))
   | none=>none
  | _=>none) none:=by
  unfold builtin;simp only[hu];rfl
 rw[e,zS,Ak,f];rcases vW a b ms 0 hm with y|⟨j,p,n,y,_⟩
 ·simp only[y];exact⟨ms,rfl,hm⟩
 ·simp only[y];exact⟨_,rfl,fun e he=>hm e (List.mem_of_mem_eraseIdx he)⟩
theorem Bi5{M:Nat}(f:h.get M=some (.map ms))(hm:Amg ms)(a b:Int):∃p n,p' TT 227 246 false (.map M) (kp a b) h=some (.agg (p++[I n]),h)/\U8 p/\p.length=64:=by
 have e:p' TT 227 246 false (.map M) (kp a b) h=Bb (Ot TT 227 (kp a b)) (match h.get M with
  | some (.map es)=>match H0 (kp a b) es 0 with
   | some (some (_,v))=>some (v,h)
   | some none=>oB (fun A=>some (A,h)) (zeroOf TT 246)
   | none=>none
  | _=>none) none:=rfl
 have B:zeroOf TT 246=some (.agg (Vb++[I 0])):=by kernel_rfl
 rw[e,zS,Ak,f];rcases vW a b ms 0 hm with y|⟨j,p,n,y,hp,C⟩
 ·simp only[y,B];exact⟨Vb,0,rfl,U8.zs,Kq⟩
 ·simp only[y];exact⟨p,n,rfl,hp,C⟩
theorem A71{M:Nat}(A:h.get M=some (.map ms))(hm:Amg ms)(a b:Int){p:List EV}{n:Int}(hp:U8 p)(f:p.length=64):∃je,p_ TT 227 (.map M) (kp a b) (.agg (p++[I n])) h=some (.tuple [],h.put M (.map je))/\Amg je:=by
 have e:p_ TT 227 (.map M) (kp a b) (.agg (p++[I n])) h=Bb (Ot TT 227 (kp a b)) (match h.get M with
  | some (.map es)=>match H0 (kp a b) es 0 with
   | some (some (j,_))=>some (.tuple [],h.put M (.map (es.set j (kp a b,.agg (p++[I n])))))
   | some none=>some (.tuple [],h.put M (.map (es++[(kp a b,.agg (p++[I n]))])))
   | none=>none
  | _=>none) none:=rfl
 rw[e,zS,Ak,A];rcases vW a b ms 0 hm with y|⟨j,B,C,y,_⟩
 ·simp only[y]
  refine⟨_,rfl,fun e he=>?_⟩;rcases bR.1 he with he|he
  ·exact hm e he
  ·rw[aP.1 he];exact⟨a,b,p,n,rfl,hp,f⟩
 ·simp only[y]
  refine⟨_,rfl,fun e he=>?_⟩;rcases dG he with he|he
  ·exact hm e he
  ·rw[he];exact⟨a,b,p,n,rfl,hp,f⟩
structure Y6 where
 Ou:Int
 kind:Int
 Al:Int
 off:Int
 pat:List EV
def Y6.cells(e:Y6):List EV:=[I e.Ou,I e.kind,I e.Al,I e.off]++e.pat
structure Y6.Wf(e:Y6):Prop where
 u8:U8 e.pat
 len:e.pat.length=64
structure Jo where
 dv:Dv
 ev:List Y6
 Qc:List Y6
def Bt5:EV->EV->EV
 | .int k x,.int _ y=>.int k (Int.ofNat (Nat.xor x.toNat y.toNat))
 | a,_=>a
def Yc(a b:List EV):List EV:=List.zipWith Bt5 a b
def Dv.mW(D:Dv)(z off:Int)(p:List EV):Dv:=
 if D.has z=true/\0<=off/\off<(D.zs z.toNat).l.length then D.set z.toNat { D.zs z.toNat with l:=(D.zs z.toNat).l.set off.toNat (Yc (((D.zs z.toNat).l[off.toNat]?).getD Vb) p) }else D
noncomputable def Dv.Su(D:Dv)(e:Y6):Dv:=
 if e.kind=1 then D.mW e.Al e.off e.pat else if e.kind=2 then D.fail e.Al 3 else if e.kind=3 then D.fail e.Al 4 else if e.kind=4 then D.WE else D
noncomputable def ki:List Y6->Dv->List Y6->Jo
 | [],D,k=>⟨D,[],k⟩
 | e::r,D,k=>if D.down=true\/¬e.Ou<=D.cnt then⟨D,e::r,k⟩else ki r (D.Su e) (k++[e])
noncomputable def Jo.due(S:Jo):Jo:=ki S.ev S.dv S.Qc
structure Jo.Wf(S:Jo):Prop where
 ev:S.ev.length+S.Qc.length<=200
 wf:∀e∈S.ev,e.Wf
 hwf:∀e∈S.Qc,e.Wf
structure Afh(h:Ab)(D V M qc qh:Nat)(cs hs:EV)(ms:List (EV × EV))(S:Jo)(F G:Nat->Prop):Prop where
 D4:h.get D=some (.cells [.ptr V 0,cs,hs,.map M] 143)
 map:h.get M=some (.map ms)
 marks:Amg ms
 J3:Cd h cs qc 32 68 S.ev.length (S.ev.map Y6.cells).flatten
 Auh:Cd h hs qh 32 68 S.Qc.length (S.Qc.map Y6.cells).flatten
 dev:Hh h V S.dv F
 sub:(∀i,F i->G i)/\G D/\G M/\(0<S.ev.length->G qc)/\(0<S.Qc.length->G qh)
 apart:¬F D/\¬F M/\(0<S.ev.length->¬F qc)/\(0<S.Qc.length->¬F qh)/\(0<S.ev.length->0<S.Qc.length->qc≠qh)
structure F3(h:Ab)(D:Nat)(S:Jo)(G:Nat->Prop):Prop where
 lt:∀i,G i->i<h.next
 wf:S.Wf
 Ou:∃V M qc qh cs hs ms F,Afh h D V M qc qh cs hs ms S F G
theorem Afh.mono{D M:Nat}{S:Jo}{f:Nat->Prop}(a:Afh h D V M qc qh cs hs ms S F G)(s:∀i,G i->f i):Afh h D V M qc qh cs hs ms S F f:=
 ⟨a.D4,a.map,a.marks,a.J3,a.Auh,a.dev,⟨fun i j=>s i (a.sub.1 i j),s _ a.sub.2.1,s _ a.sub.2.2.1,fun y=>s _ (a.sub.2.2.2.1 y),fun y=>s _ (a.sub.2.2.2.2 y)⟩,a.apart⟩
theorem F3.mono{D:Nat}{S:Jo}{f:Nat->Prop}(d:F3 h D S G)(s:∀i,G i->f i)(l:∀i,f i->i<h.next):F3 h D S f:=by
 obtain⟨V,M,qc,qh,cs,hs,ms,F,a⟩:=d.Ou;exact⟨l,d.wf,V,M,qc,qh,cs,hs,ms,F,a.mono s⟩
theorem F3.grow{D:Nat}{S:Jo}(d:F3 h' D S G)(l:∀i,G i->i<h.next)(n:h.next<=h'.next):F3 h' D S (Bk G h h'):=d.mono (fun _=>.inl) (Bk.lt l n)
theorem F3.wq{D:Nat}{S:Jo}(d:F3 h2 D S (Bk (Bk G h h1) h1 h2))(a:h.next<=h1.next)(b:h1.next<=h2.next)(l:∀i,G i->i<h.next):F3 h2 D S (Bk G h h2):=
 d.mono (fun _=>Bk.trans a b) (Bk.lt l (bQ a b))
theorem Afh.frame{D M:Nat}{S:Jo}(a:Afh h D V M qc qh cs hs ms S F G)(n:h.next<=h'.next)(e:∀i,G i->h'.get i=h.get i):Afh h' D V M qc qh cs hs ms S F G:=
 ⟨by rw[e _ a.sub.2.1];exact a.D4,by rw[e _ a.sub.2.2.1];exact a.map,a.marks,a.J3.frame fun y=>e _ (a.sub.2.2.2.1 y),a.Auh.frame fun y=>e _ (a.sub.2.2.2.2 y),a.dev.frame n fun i f=>e i (a.sub.1 i f),a.sub,a.apart⟩
theorem F3.frame{D:Nat}{S:Jo}(d:F3 h D S G)(n:h.next<=h'.next)(e:∀i,G i->h'.get i=h.get i):F3 h' D S G:=by
 obtain⟨V,M,qc,qh,cs,hs,ms,F,a⟩:=d.Ou;exact⟨fun i f=>aN (d.lt i f) n,d.wf,V,M,qc,qh,cs,hs,ms,F,a.frame n e⟩
theorem F3.chg{D:Nat}{S:Jo}{T:Nat->Prop}(d:F3 h D S G)(c:Av T h h')(n:∀i,G i->¬T i):F3 h' D S G:=d.frame c.next fun i f=>c.get i (d.lt i f) (n i f)
theorem F3.ext{D:Nat}{S:Jo}(d:F3 h D S G)(c:Ext h h'):F3 h' D S G:=d.chg c fun _ _=>id
theorem Afh.put{D M:Nat}{S:Jo}(a:Afh h D V M qc qh cs hs ms S F G)(hb:HB h)(d:Hh h' V dv (Bk F h h'))(c:Av F h h'):
 Afh h' D V M qc qh cs hs ms { S with dv:=dv } (Bk F h h') (Bk G h h'):=by
 have lq:∀{s q n l},Cd h s q 32 68 n l->0<n->q<h.next:=fun r y=>hb _ _ (r.block y)
 have j:∀{i},¬F i->i<h.next->¬Bk F h h' i:=fun y l z=>by
  rcases z with z|z
  ·exact y z
  ·omega
 refine⟨c.at hb a.D4 a.apart.1,c.at hb a.map a.apart.2.1,a.marks,a.J3.frame fun y=>c.get _ (lq a.J3 y) (a.apart.2.2.1 y),a.Auh.frame fun y=>c.get _ (lq a.Auh y) (a.apart.2.2.2.1 y),d,⟨fun i f=>?_,.inl a.sub.2.1,.inl a.sub.2.2.1,fun y=>.inl (a.sub.2.2.2.1 y),fun y=>.inl (a.sub.2.2.2.2 y)⟩,⟨j a.apart.1 (hb _ _ a.D4),j a.apart.2.1 (hb _ _ a.map),fun y=>j (a.apart.2.2.1 y) (lq a.J3 y),fun y=>j (a.apart.2.2.2.1 y) (lq a.Auh y),a.apart.2.2.2.2⟩⟩;rcases f with f|f
 ·exact .inl (a.sub.1 i f)
 ·exact .inr f
theorem F3.put{D M:Nat}{S:Jo}(s:F3 h D S G)(a:Afh h D V M qc qh cs hs ms S F G)(hb:HB h)(d:Hh h' V dv (Bk F h h'))(c:Av F h h'):
 F3 h' D { S with dv:=dv } (Bk G h h')/\Av G h h':=
 ⟨⟨Bk.lt s.lt c.next,⟨s.wf.ev,s.wf.wf,s.wf.hwf⟩,V,M,qc,qh,cs,hs,ms,_,a.put hb d c⟩,c.mono a.sub.1⟩
theorem Afh.tv{D M:Nat}{S:Jo}(a:Afh h D V M qc qh cs hs ms S F G)(hm:Amg je):
 Afh (h.put M (.map je)) D V M qc qh cs hs je S F G:=by
 refine⟨?_,Ae _ _ _,hm,a.J3.frame fun y=>Af _ ?_,a.Auh.frame fun y=>Af _ ?_,a.dev.frame (aE _) fun i f=>Af _ fun y=>?_,a.sub,a.apart⟩
 ·rw[Af _ (Az a.map a.D4 (by simp))];exact a.D4
 ·exact Az a.map (a.J3.block y) (by simp)
 ·exact Az a.map (a.Auh.block y) (by simp)
 ·rw[<-y]at f;exact a.apart.2.1 f
theorem F3.tv{D M:Nat}{S:Jo}(s:F3 h D S G)(a:Afh h D V M qc qh cs hs ms S F G)(hb:HB h)(hm:Amg je):
 F3 (h.put M (.map je)) D S G/\Av G h (h.put M (.map je))/\HB (h.put M (.map je)):=by
 have f:=hb _ _ a.map;exact⟨⟨s.lt,s.wf,V,M,qc,qh,cs,hs,je,F,a.tv hm⟩,(Av.refl h).Ar (.inl a.sub.2.2.1) f _,hb.put f _⟩
theorem CG{D M:Nat}{S:Jo}(a:Afh h D V M qc qh cs hs ms S F G):D7 K (.ptr D 0) h=some (.ptr V 0,h):=by simp only[D7,Aa,Cw a.D4 rfl]
def WI(disp:Nat->Option FT)(K d:Nat)(S:Jo):Prop:=∀(h:Ab) (D:Nat) (G:Nat->Prop),F3 h D S G->HB h->Ok (Ag TT disp K d false 129 [.ptr D 0] h) fun v h'=>F3 h' D S.due (Bk G h h')/\Av G h h'/\HB h'
variable {S:Jo}
noncomputable def Jo.begin(S:Jo)(i:Int):Jo:=if S.dv.has i=true then S.due else S
def ma(disp:Nat->Option FT)(K:Nat)(S:Jo):Prop:=∀d,12<=d->WI disp K d S
theorem tE(H:Bv disp){d:Nat}(hd:13<=d){D:Nat}(f:ma disp K S)(s:F3 h D S G)(hb:HB h)(i:Int):
 Ok (Ag TT disp K d false 138 [.ptr D 0,I i] h) fun v h'=>F3 h' D (S.begin i) (Bk G h h')/\Av G h h'/\HB h':=by
 obtain⟨e,rfl⟩:∃k,d=k+1:=⟨d-1,by omega⟩;rw[Ap3 H (by omega)];obtain⟨V,M,qc,qh,cs,B,ms,F,a⟩:=s.Ou;obtain⟨zl,z,q,b,_⟩:=a.dev.Ou;have fin:Ok (some (.tuple [],h)) fun(_:EV) h'=>F3 h' D S (Bk G h h')/\Av G h h'/\HB h':=.ret ⟨s.grow s.lt (aE _),Av.refl _,hb⟩
 unfold Jo.begin;simp only[JB,I,Ac,Aa];by_cases h0:0<=i
 ·have A:=VX (K:=K) b
  simp only[I]at A;simp only[h0,aC,Aa,Cw a.D4 rfl,A,Ac,Uf];by_cases h1:i<S.dv.n
  ·have j:S.dv.has i=true:=aM ⟨h0,h1⟩
   simp only[h1,aC,Aa];rw[j,aI rfl];refine(f e (by omega) h D G s hb).Am ?_;intro v h' p;exact .ret p
  ·have j:S.dv.has i=false:=aJ fun y=>h1 y.2
   simp only[h1,aA,Aa];rw[j,aG (by simp)];exact fin
 ·have j:S.dv.has i=false:=aJ fun y=>h0 y.1
  simp only[h0,aA,Aa,Uf];rw[j,aG (by simp)];exact fin
noncomputable def Jo.append(S:Jo)(i:Int)(x:List EV):Jo × Int × Int:=({ S.begin i with dv:=((S.begin i).dv.append i x).1 },((S.begin i).dv.append i x).2)
theorem CJ(H:Bv disp)(hK:1000<K){d:Nat}(hd:14<=d){D:Nat}(L:ma disp K S)(s:F3 h D S G)(hb:HB h)(i:Int)(hx:x.length=64)(hu:U8 x):
 Ok (Ag TT disp K d false 187 [.ptr D 0,I i,.agg x] h) fun v h'=>v=.tuple [I (S.append i x).2.1,I (S.append i x).2.2]/\F3 h' D (S.append i x).1 (Bk G h h')/\Av G h h'/\HB h':=by
 obtain⟨e,rfl⟩:∃k,d=k+1:=⟨d-1,by omega⟩;rw[Aoi H (by omega)];simp only[LP,Aa];have B:Ext h (h.new (.cells x 30)):=Av.new _ _;have O:(h.new (.cells x 30)).get h.next=some (.cells x 30):=Ad _ _
 have C:HB (h.new (.cells x 30)):=hb.new _;have s1:=s.ext B;have n1:(h.new (.cells x 30)).next=h.next+1:=rfl
 generalize h.new (.cells x 30)=h1 at B O C s1 n1⊢;refine(tE (K:=K) H (by omega) L s1 C i).Am ?_;rintro _ h2 ⟨s2,c2,f⟩;have nx:¬G h.next:=fun y=>bN _ (s.lt _ y)
 have O:=c2.at C O nx;have E:Av G h h2:=(Ext.to B).trans c2;have s2:F3 h2 D (S.begin i) (Bk G h1 h2):=s2;unfold Jo.append;generalize S.begin i=T at s2⊢;obtain⟨V,M,qc,qh,cs,Y,ms,F,a⟩:=s2.Ou;have lD:=f _ _ a.D4;have l5:=f _ _ O;simp only[Aa,As,Cp lD,Cw a.D4 rfl,Cp l5,Cy O rfl,Aj hx];refine Ok.bC (S:=F) (A20 (K:=K) a.dev.lift (C8 f) hK i hx hu) (fun _ _ p=>p.2.2.1) ?_;rintro _ h3 h4 s' ⟨rfl,d3,_,aa⟩ sm c4 _;have J:=sm.hb aa;have d4:Hh h4 V (T.dv.append i x).1 (Bk F h2 h4):=by
  have:=d3.frame (h':=h4) (by rw[sm.next];exact aE _) fun j _=>sm.get j
  refine this.mono (fun j hj=>?_) (Bk.lt a.dev.lt c4.next);rcases hj with y|y
  ·exact .inl y
  ·exact .inr ⟨y.1,by rw[sm.next];exact y.2⟩
 have U:=a.put f d4 c4;obtain⟨W,A⟩:=s2.put a f d4 c4;have X:Av G h h4:=by
  refine E.then A fun j hj hl=>?_
  rcases hj with y|y
  ·exact y
  ·have:=B.next;omega
 have W:F3 h4 D { T with dv:=(T.dv.append i x).1 } (Bk G h h4):=W.mono (fun j hj=>by
  rcases hj with(y|y)|y
  ·exact .inl y
  ·have:=B.next;have:=A.next;exact .inr ⟨by omega,by omega⟩
  ·have:=E.next;exact .inr ⟨by omega,y.2⟩) (Bk.lt s.lt X.next)
 simp only[Aa,I,Ac];by_cases hz:(T.dv.append i x).2.2=0
 ·simp only[hz,aC,Aa,Cw U.D4 rfl]
  rw[Ax (l:=[I i,I (T.dv.append i x).2.1]) rfl];obtain⟨je,e1,ab⟩:=WH U.map U.marks i (T.dv.append i x).2.1;unfold kp at e1;rw[e1,Au];simp only[Sy,dr];obtain⟨V',M',aq,au,aw,af,ag,F',a5⟩:=W.Ou;have lM:=J _ _ U.map;have a6:=U.tv ab;have gM:Bk G h h4 M:=by
   rcases a.sub.2.2.1 with y|y
   ·exact .inl y
   ·have:=B.next;have:=A.next;exact .inr ⟨by omega,by omega⟩
  have c5:Av (Bk G h h4) h4 (h4.put M (.map je)):=(Av.refl h4).Ar (.inl gM) lM _;refine .ret ⟨rfl,⟨Bk.lt s.lt (X.grow c5).next,W.wf,V,M,qc,qh,cs,Y,je,_,a6.mono fun j hj=>?_⟩,X.grow c5,J.put lM _⟩;show Bk G h h4 j;rcases hj with(y|y)|y
  ·exact .inl y
  ·have:=B.next;have:=A.next;exact .inr ⟨by omega,by omega⟩
  ·have:=E.next;exact .inr ⟨by omega,y.2⟩
 ·simp only[hz,aA,Aa,Sy]
  exact .ret ⟨rfl,W,X,J⟩
noncomputable def Jo.read(S:Jo)(i off:Int):Jo × List EV × Int:=({ S.begin i with dv:=(S.begin i).dv.begin i },(S.begin i).dv.read i off)
theorem VA(H:Bv disp){d:Nat}(hd:14<=d){D:Nat}(E:ma disp K S)(s:F3 h D S G)(hb:HB h)(i off:Int):
 Ok (Ag TT disp K d false 106 [.ptr D 0,I i,I off] h) fun v h'=>v=.tuple [.agg (S.read i off).2.1,I (S.read i off).2.2]/\(S.read i off).2.1.length=64/\F3 h' D (S.read i off).1 (Bk G h h')/\Av G h h'/\HB h':=by
 obtain⟨e,rfl⟩:∃k,d=k+1:=⟨d-1,by omega⟩;rw[Aro H (by omega)];simp only[LR,Aa];have J:Ext h (h.new (.cells (List.replicate 64 (.int .u8 0)) 30)):=Av.new _ _;have B:(h.new (.cells (List.replicate 64 (.int .u8 0)) 30)).get h.next=some (.cells Vb 30):=Ad _ _
 have f:HB (h.new (.cells (List.replicate 64 (.int .u8 0)) 30)):=hb.new _;have s1:=s.ext J;generalize h.new (.cells (List.replicate 64 (.int .u8 0)) 30)=h1 at J B f s1⊢;refine(tE (K:=K) H (by omega) E s1 f i).Am ?_;rintro _ h2 ⟨s2,c2,A⟩;have nx:¬G h.next:=fun y=>bN _ (s.lt _ y)
 have B:=c2.at f B nx;have l6:h.next<h1.next:=by
  have:=A _ _ B;rcases cb h.next h1.next with y|y
  ·exact y
  ·exact absurd (f _ _ (show h1.get h.next=some (.cells Vb 30) by assumption)) (by omega)
 have L:Av G h h2:=(Ext.to J).trans c2;unfold Jo.read;generalize S.begin i=T at s2⊢;obtain⟨V,M,qc,qh,cs,Y,ms,F,a⟩:=s2.Ou;simp only[Aa,Cw a.D4 rfl];refine(Ba8 (K:=K) a.dev A i off).Am ?_;rintro _ W ⟨rfl,hlen,d3,c3,O⟩;obtain⟨s3,C⟩:=s2.put a A d3 c3;have X:¬Bk G h1 h2 h.next:=by
  rintro(y|y)
  ·exact nx y
  ·omega
 have B:=C.at A B X;have U:=O _ _ B;simp only[Aa];refine Ok.st (T.dv.read i off).1 B rfl (by rw[show EV.cells (.agg (T.dv.read i off).1)=(T.dv.read i off).1 from rfl,Bh,hlen]) (Bn (by rw[Kq];exact hlen.symm)) ?_;rw[Ej (Ae _ _ _) kz.1 kz.2 hlen];have cc:Av G h W:=by
  refine L.then C fun j hj hl=>?_
  rcases hj with y|y
  ·exact y
  ·have:=J.next;omega
 have c4:Av G h (W.put h.next (.cells (T.dv.read i off).1 30)):=cc.Ar (.inr (aE _)) U _;refine .ret ⟨rfl,hlen,?_,c4,O.put U _⟩;refine F3.mono (s3.frame (h':=W.put h.next (.cells (T.dv.read i off).1 30)) (aE _) fun j hj=>Af _ fun y=>?_) (fun j hj=>?_) (Bk.lt s.lt c4.next)
 ·subst y
  rcases hj with y|y
  ·exact X y
  ·have:=c2.next;omega
 ·show Bk G h W j
  rcases hj with(y|y)|y
  ·exact .inl y
  ·have:=J.next;have:=C.next;exact .inr ⟨by omega,by omega⟩
  ·have:=L.next;exact .inr ⟨by omega,y.2⟩
noncomputable def Jo.flush(S:Jo):Jo × Int:=({ S.due with dv:=S.due.dv.flush.1 },S.due.dv.flush.2)
theorem CI(H:Bv disp)(hK:1000<K){d:Nat}(hd:14<=d){D:Nat}(f:ma disp K S)(s:F3 h D S G)(hb:HB h):
 Ok (Ag TT disp K d false 98 [.ptr D 0] h) fun v h'=>v=I S.flush.2/\F3 h' D S.flush.1 (Bk G h h')/\Av G h h'/\HB h':=by
 obtain⟨e,rfl⟩:∃k,d=k+1:=⟨d-1,by omega⟩;rw[Aom H (by omega)];simp only[LA,dr];refine(f e (by omega) h D G s hb).Am ?_;rintro _ h2 ⟨s2,c2,j⟩;unfold Jo.flush;generalize S.due=T at s2⊢;obtain⟨V,M,qc,qh,cs,B,ms,F,a⟩:=s2.Ou;simp only[Aa,Cw a.D4 rfl];refine(A7i (K:=K) a.dev j hK).Am ?_;rintro _ E ⟨rfl,d3,c3,A⟩;obtain⟨C,y⟩:=s2.put a j d3 c3;exact .ret ⟨rfl,C.wq c2.next y.next s.lt,c2.grow y,A⟩
noncomputable def Jo.finish(S:Jo)(i:Int):Jo × Int:=({ S.begin i with dv:=((S.begin i).dv.finish i).1 },((S.begin i).dv.finish i).2)
theorem CH(H:Bv disp){d:Nat}(hd:14<=d){D:Nat}(f:ma disp K S)(s:F3 h D S G)(hb:HB h)(i:Int):
 Ok (Ag TT disp K d false 189 [.ptr D 0,I i] h) fun v h'=>v=I (S.finish i).2/\F3 h' D (S.finish i).1 (Bk G h h')/\Av G h h'/\HB h':=by
 obtain⟨e,rfl⟩:∃k,d=k+1:=⟨d-1,by omega⟩;rw[Ans H (by omega)];simp only[LQ,dr];refine(tE (K:=K) H (by omega) f s hb i).Am ?_;rintro _ h2 ⟨s2,c2,j⟩;unfold Jo.finish;generalize S.begin i=T at s2⊢;obtain⟨V,M,qc,qh,cs,B,ms,F,a⟩:=s2.Ou;simp only[Aa,Cw a.D4 rfl];refine(A3r (K:=K) a.dev j i).Am ?_;rintro _ E ⟨rfl,d3,c3,A⟩;obtain⟨C,y⟩:=s2.put a j d3 c3;exact .ret ⟨rfl,C.wq c2.next y.next s.lt,c2.grow y,A⟩
theorem X_ {D:Nat}(z:Int):∀(m i:Nat) (h:Ab),S.dv.size-i<m->F3 h D S G->HB h ->
 Ok (Jv K m (.ptr D 0) (I z) (I i) h) fun v h'=>F3 h' D S G/\Av G h h'/\HB h':=by
 intro m;induction m with
 | zero=>intro i h hm;omega
 | succ m C=>
  intro i h hm s hb;obtain⟨V,M,qc,qh,cs,E,ms,F,a⟩:=s.Ou;obtain⟨zl,O,q,b,_⟩:=a.dev.Ou;have f:=VY (K:=K) b;have J:S.dv.size<=64:=a.dev.wf.size;simp only[I]at f;simp only[Jv,Aa,Cw a.D4 rfl,f,I,Ac];by_cases j:(i:Int)<S.dv.size
  ·simp only[j,aC,Aa,HU,Cw a.D4 rfl]
   rw[Ax (l:=[I z,I i]) rfl];obtain⟨je,e1,y⟩:=WH a.map a.marks z i;unfold kp at e1;rw[e1,Au];simp only[HT,I,Ac];rw[Cl];obtain⟨s2,c2,A⟩:=s.tv a hb y;refine(C (i+1) _ (by omega) s2 A).mono ?_;rintro v h' ⟨L,c3,B⟩;exact⟨L,c2.trans c3,B⟩
  ·simp only[j,aA,Aa]
   exact .ret ⟨s,Av.refl _,hb⟩
end Go.Ev
