import Derived.Test.YtadnemjjlacolaaGreatVb
import Derived.Test.YtadnemjjlacolaaGreatDc
set_option linter.all false
namespace Go.Ev
open Go.Proofs
set_option maxRecDepth 100000
variable {h h' h0:Aa}{K P b d e i j n t b2 ml:Nat}{g:Gm}{xs:List EV}{kk:Aa->R}{Q:EV->Aa->Prop}{x:Me}{y:EV}{S T:Nat->Prop}{v:Int}{tm:Az}{disp:Nat->Option FT}
instance:DecidableEq Me:=fun a b=>by
 cases a;cases b;simp only[Me.mk.injEq];exact inferInstance
def Me.nil(s:Int):Me:=⟨s,0,0,0,0,0⟩
def meR(g:Gm)(x:Me):Bool:=if x.state=0\/x.state=2 then decide (x=Me.nil x.state)else if x.state=1 then meB g x else false
def Ut(z:Int)(x:Me):Int:=if x.state=1/\(x.Ah=z\/x.Ay=z)then 1 else 0
def Jt(es:List Me)(z:Int):Int:=(es.map (Ut z)).foldr (· + ·) 0
theorem O6(x:Me)(es:List Me)(z:Int):Jt (x::es) z=Ut z x+Jt es z:=rfl
theorem A3n(z:Int)(x:Me):0<=Ut z x/\Ut z x<=1:=by unfold Ut;split<;>omega
theorem Ajk(z:Int):∀es:List Me,0<=Jt es z/\Jt es z<=es.length
 | []=>⟨cY _,cY _⟩
 | x::es=>by
  have:=Ajk z es;have:=A3n z x;rw[O6,bF];omega
theorem A0s(z:Int)(y:Me):∀(es:List Me) (j:Nat) (hj:j<es.length),Jt (es.set j y) z=Jt es z-Ut z es[j]+Ut z y
 | x::es,0,_=>by
  rw[List.set_cons_zero,O6,O6];show Ut z y+Jt es z=Ut z x+Jt es z-Ut z x+Ut z y;omega
 | x::es,j+1,hj=>by
  have a:j<es.length:=by simpa using hj
  rw[List.set_cons_succ,O6,O6,A0s z y es j a];show _=Ut z x+Jt es z-Ut z es[j]+Ut z y;omega
structure Rl(h:Aa)(b ml ll:Nat)(g:Gm)(es:List Me):Prop where
 map:h.get b=some (.cells (gL g++[.slice ml 0 g.B.toNat g.B.toNat false,.slice ll 0 (g.D*g.Z).toNat (g.D*g.Z).toNat false]) 115)
 row:h.get ml=some (.cells (es.map Me.cells).flatten 47)
 live:h.get ll=some (.cells ((List.range (g.D*g.Z).toNat).map fun(z:Nat)=>I (Jt es z)) 3)
 len:es.length=g.B.toNat
 ok:∀x∈es,meR g x=true
theorem Rl.frame{ll:Nat}{es:List Me}(m:Rl h b ml ll g es)(e1:h'.get b=h.get b)(e2:h'.get ml=h.get ml)(e3:h'.get ll=h.get ll):Rl h' b ml ll g es:=⟨by rw[e1];exact m.map,by rw[e2];exact m.row,by rw[e3];exact m.live,m.len,m.ok⟩
theorem Rl.ext{ll:Nat}{es:List Me}(m:Rl h b ml ll g es)(e:∀i o,h.get i=some o->h'.get i=some o):Rl h' b ml ll g es:=⟨e _ _ m.map,e _ _ m.row,e _ _ m.live,m.len,m.ok⟩
theorem Bf0:∀(l:List (List EV)) (j:Nat) (x:List EV),(∀x∈l,x.length=n)->l[j]? = some x->Mo l.flatten (j*n) n=some x:=by
 have len:∀l:List (List EV),(∀x∈l,x.length=n)->l.flatten.length=l.length*n:=fun l=>by
  induction l with
  | nil=>intro _;simp
  | cons a r k=>intro h;rw[br,aG,h a (aW ..),k fun x f=>h x (aR _ f),bF,fD];omega
 intro l j x m f;have hj:=(aY.1 f).1;rw[E7 (by rw[len l m];have:=Nat.mul_le_mul_right n (show j+1<=l.length from hj);rw[fD]at this;exact this)];congr 1;induction l generalizing j with
 | nil=>cases f
 | cons a r k=>
  have o:=m a (aW ..);cases j with
  | zero=>
   rw[bH]at f;cases f;rw[fS,dF,br,<-o,eW]
  | succ j=>
   rw[bY]at f;rw[br,fD,show j*n+n=a.length+j*n by omega,<-dZ,fm];exact k j (fun x f=>m x (aR _ f)) f (aY.1 f).1
theorem Axd(es:List Me)(hj:j<es.length):Mo (es.map Me.cells).flatten (j*6) 6=some es[j].cells:=
 Bf0 (n:=6) (es.map Me.cells) j es[j].cells (fun y a=>by obtain⟨z,_,rfl⟩:=cA.1 a;rfl) (by rw[bB,aD hj];rfl)
def An2(es:List Me)(j:Int):Me × Int:=if 0<=j/\j<es.length then((es[j.toNat]?).getD (Me.nil 0),0)else(Me.nil 0,13)
theorem Ok.stA{z:List EV}(f:h.get i=some (.cells z t))(k:z.length=n)(a:xs.length=n)(m:Ok (kk (h.put i (.cells xs t))) Q):Ok (stE n (.ptr i 0) (.agg xs) h kk) Q:=
 Ok.st xs f rfl (by show Fz xs=n;rw[Bc,a]) (Bk (by show z.length=xs.length;rw[a,k])) m
theorem Uq{ll:Nat}{es:List Me}(s:Sm g)(m:Rl h b ml ll g es)(hb:HB h)(j:Int):Ok (K4 K (.ptr b 0) (I j) h) fun v h'=>v=.tuple [.agg (An2 es j).1.cells,I (An2 es j).2]/\Ext h h':=by
 have:=s.b0;have:=s.b1;simp only[K4,I,Ab,Ac];rw[show[EV.int .i64 0,.int .i64 0,.int .i64 0,.int .i64 0,.int .i64 0,.int .i64 0]=(Me.nil 0).cells from rfl];obtain⟨C,D,a,p,_⟩:=nW h (.cells (Me.nil 0).cells 47);rw[D];have f:=a.hb hb;have q:=a.at hb m.map;have E:=a.at hb m.row;have F:=f _ _ p;have st:∀(x:Me) (e:Int),Ok (stE 6 (.ptr h.next 0) (.agg x.cells) C fun o=>It TT [.c (.ptr h.next 0) 47,.v (.int .i64 e)] o) fun v h'=>v=.tuple [.agg x.cells,I e]/\Ext h h':=by
  intro x e;refine Ok.stA p rfl rfl ?_;rw[Ff (Ae _ _ _) Az6.1 Az6.2 rfl];exact .ret ⟨rfl,a.Aq (.inr (aE _)) F _⟩
 unfold An2;by_cases u:j<0
 ·have G:Fa (.tuple []) false=false/\Fa (.tuple []) true=false:=⟨rfl,rfl⟩
  simp only[u,aB,Ab,Ac,Abk];rw[Ax (l:=(Me.nil 0).cells) rfl,aF (by omega)];exact st _ 13
 simp only[u,aA,Ab,Ac];rw[Al q rfl (v:=.slice ml 0 g.B.toNat g.B.toNat false) rfl];rw[show ∀k:EV->R,H5 (.slice ml 0 g.B.toNat g.B.toNat false) k=k (I g.B.toNat)from fun _=>rfl];simp only[I,Ac,Ab,Abk];have hlen:=m.len;by_cases J:j<g.B
 ·obtain⟨n,rfl⟩:=a8 (show 0<=j by omega)
  have A:n<es.length:=by omega
  have:decide ((n:Int)≥(g.B.toNat:Int))=false:=by simp;omega
  simp only[this,Ab,Akw];rw[Al q rfl (v:=.slice ml 0 g.B.toNat g.B.toNat false) rfl,Nw (by omega),bK,Cr E rfl (Axd es A),aH (by omega)];rw[show(es[(n:Int).toNat]?).getD (Me.nil 0)=es[n] by rw[bD,aD A];rfl];exact st _ 0
 ·have:decide ((j:Int)≥(g.B.toNat:Int))=true:=by simp;omega
  simp only[this,Ab];rw[Ax (l:=(Me.nil 0).cells) rfl,aF (by omega)];exact st _ 13
def X5(g:Gm)(es:List Me)(z:Int):Int:=if 0<=z/\z<g.D*g.Z then Jt es z else 0
theorem Ax8(n:Nat)(f:Int->Int)(hj:j<n):((List.range n).map fun(z:Nat)=>I (f z))[j]? = some (I (f j)):=by
 rw[bB,cJ hj];rfl
theorem An9{ll:Nat}{es:List Me}(m:Rl h b ml ll g es)(z:Int):Qd K (.ptr b 0) (I z) h=some (I (X5 g es z),h):=by
 simp only[Qd,I,Ab,Ac];unfold X5;by_cases a:z<0
 ·simp only[a,aB,Ab,Ac,Ym]
  rw[aF (by omega)]
 simp only[a,aA,Ab,Ac];rw[Al m.map rfl (v:=.slice ll 0 (g.D*g.Z).toNat (g.D*g.Z).toNat false) rfl];rw[show ∀k:EV->R,H5 (.slice ll 0 (g.D*g.Z).toNat (g.D*g.Z).toNat false) k=k (I (g.D*g.Z).toNat)from fun _=>rfl];simp only[I,Ac,Ab,Ym];by_cases f:z<g.D*g.Z
 ·obtain⟨n,rfl⟩:=a8 (show 0<=z by omega)
  have:decide ((n:Int)≥((g.D*g.Z).toNat:Int))=false:=by simp;omega
  simp only[this,Ab,Ai4];rw[Al m.map rfl (v:=.slice ll 0 (g.D*g.Z).toNat (g.D*g.Z).toNat false) rfl,Nw (by omega),bK,bW,Al m.live rfl (Ax8 (g.D*g.Z).toNat (Jt es) (j:=n) (by omega)),aH (by omega)]
 ·have:decide ((z:Int)≥((g.D*g.Z).toNat:Int))=true:=by simp;omega
  simp only[this,Ab];rw[aF (by omega)]
theorem Ay1:∀(l l':List Int),l.length=l'.length->E2 (l.map I) (l'.map I)=some (decide (l=l'))
 | [],[],_=>rfl
 | a::l,b::l',h=>by
  have k:=Ay1 l l' (by simpa using h);rw[dL,dL];unfold E2;rw[Ath];by_cases f:a=b
  ·subst f
   rw[aP rfl];simp only[k,List.cons.injEq,gG]
  ·rw[aO f]
   simp only[k];rw[aO fun y=>f (List.cons.inj y).1]
def Me.row(x:Me):List Int:=[x.state,x.Ah,x.Ay,x.off,x.seq,x.sum]
theorem Me.Bl5 {y:Me}:x.row=y.row↔x=y:=by
 cases x;cases y;simp[Me.row]
theorem Bps(x y:Me)(k:EV->R):Kk Al0 (bin TT .eql 47) (.agg x.cells) (.agg y.cells) k=k (.bool (decide (x=y))):=by
 have he:TT.eqs 47=some [0,0,0,0,0,0]:=by kernel_rfl
 have a:Aqr TT 47 (.agg x.cells) (.agg y.cells)=some (decide (x=y)):=by
  show(match TT.eqs 47 with|some sh=>Ba (shaped sh x.cells) (E2 x.cells y.cells) none|none=>none)=_;rw[he];simp only;rw[show shaped [0,0,0,0,0,0] x.cells=true from rfl,Aj,show x.cells=x.row.map I from rfl,show y.cells=y.row.map I from rfl,Ay1 x.row y.row rfl];congr 1;rw[eI];exact Me.Bl5
 show oB k (match Aqr TT 47 (.agg x.cells) (.agg y.cells)with|some b=>some (EV.bool b)|none=>none)=_;rw[a];rfl
theorem A68(hb:HB h)(k:x.state=1->Rng x.Ah/\Rng x.Ay):Ok (Ix K (.agg x.cells) (gV g) h) fun v h'=>v=.bool (meR g x)/\Ext h h':=by
 unfold meR;by_cases s1:x.state=1
 ·rw[aF (by omega),aH s1]
  exact Apu hb s1 (k s1).1 (k s1).2
 ·simp only[Ix,gV,Ab]
  have f:Ext h ((h.new (.cells x.cells 47)).new (.cells (gL g) 23)):=(Ar.new _ _).Df _;have a:((h.new (.cells x.cells 47)).new (.cells (gL g) 23)).get h.next=some (.cells x.cells 47):=by
   rw[Aw _ (aL _)];exact Ad _ _
  generalize (h.new (.cells x.cells 47)).new (.cells (gL g) 23)=m at f a⊢;rw[Al a rfl (v:=I x.state) rfl];simp only[I,Ac];have eq:∀s,x.state=s->Ok (Kb K (.ptr h.next 0) (.ptr (h.next+1) 0) (.int .i64 s) (.bool true) m) fun v h'=>v=.bool (decide (x=Me.nil x.state))/\Ext h h':=fun s hs=>by
   simp only[Kb,Ab];rw[Cw a rfl,Ak (n:=6) rfl]
   try simp only[Ab]
   rw[Al a rfl (v:=I x.state) rfl]
   try simp only[Ab]
   rw[Ax (l:=(Me.nil x.state).cells) rfl,Bps];exact .ret ⟨rfl,f⟩
  by_cases h0:x.state=0
  ·rw[aH (.inl h0)]
   simp only[h0,aB,Ab];have:=eq 0 h0;rw[h0]at this;exact this
  ·by_cases h2:x.state=2
   ·rw[aH (.inr h2)]
    simp only[h2,show ¬((2:Int)=0) by decide,aA,aB,Ab];have:=eq 2 h2;rw[h2]at this;exact this
   ·rw[aF (by omega),aF s1]
    simp only[h0,s1,h2,aA,Ab,Kb,Ac,Acn];exact .ret ⟨rfl,f⟩
theorem Bd8 {α:Type}(f:Nat->α)(n j:Nat)(v:α):((List.range n).map f).set j v=(List.range n).map fun z=>if z=j then v else f z:=by
 apply dW;intro i;rw[dH,bB,bB];by_cases a:i<n
 ·rw[cJ a]
  by_cases hj:j=i
  ·subst hj;simp[a]
  ·simp[hj,cP hj]
 ·rw[bh (by simpa using a)]
  simp only[bZ,eT];split
  ·rw[aF (by omega)];rfl
  ·rfl
theorem Bh9(h:meR g x=true)(f:x.state=1):(0<=x.Ah/\x.Ah<g.D*g.Z)/\(0<=x.Ay/\x.Ay<g.D*g.Z)/\¬x.Ah=x.Ay:=by
 unfold meR at h;rw[aF (by omega),aH f]at h;unfold meB Sk at h;simp only[aV,Ec,aU]at h;obtain⟨⟨_,⟨a,b⟩,_⟩,⟨_,⟨c,d⟩,_⟩,e,_⟩:=h;exact⟨⟨a,by omega⟩,⟨c,by omega⟩,fun y=>e (by rw[y])⟩
def Bc2(f:Int->Int)(z v:Int):Int->Int:=fun y=>if y=z then v else f y
theorem Bb5(n:Nat)(f:Int->Int)(j:Nat)(v:Int):((List.range n).map fun(z:Nat)=>I (f z)).set j (I v)=(List.range n).map fun(z:Nat)=>I (Bc2 f j v z):=by
 rw[Bd8];congr 1;funext z;unfold Bc2;by_cases h:z=j
 ·rw[aH h,aH (by omega)]
 ·rw[aF h,aF (by omega)]
theorem A5d{ll:Nat}(hn:g.D*g.Z=n)(V:n<=512)(hm:h.get b=some (.cells (gL g++[.slice ml 0 g.B.toNat g.B.toNat false,.slice ll 0 n n false]) 115)){f:Int->Int}(O:h.get ll=some (.cells ((List.range n).map fun(z:Nat)=>I (f z)) 3))(hb:HB h)(W:meR g x=true){by':Int}(X:by'=1\/by' = -1)(bd:∀z,-1000<=f z/\f z<=1000):
 Ok (R9 K (.ptr b 0) (.agg x.cells) (I by') h) fun v h'=>v=.tuple []/\h'.get ll=some (.cells ((List.range n).map fun(z:Nat)=>I (f z+by'*Ut z x)) 3)/\Ar (fun i=>i=ll) h h'/\HB h':=by
 simp only[R9,Ab];obtain⟨C,Y,E,J,_⟩:=nW h (.cells x.cells 47);rw[Y];have m:=E.hb hb;have L:=E.at hb hm;have F:=E.at hb O;rw[Al J rfl (v:=I x.state) rfl];simp only[I,Ac];by_cases s1:x.state=1
 ·obtain⟨⟨a0,a1⟩,⟨c0,c1⟩,ne⟩:=Bh9 W s1
  obtain⟨j,hj⟩:=a8 a0;obtain⟨k,U⟩:=a8 c0;have lb:=m _ _ L;have M:=m _ _ J;have o:=m _ _ F;have B1:=bd j;have B2:=bd k;simp only[s1,aB,Ab,Au];rw[Jb lb,Al L rfl (v:=.slice ll 0 n n false) rfl]
  try simp only[Ab,Au]
  rw[Jb M,Al J rfl (v:=I x.Ah) rfl,hj]
  try simp only[I,Ab,Au]
  rw[Nw (by omega),bK,bW,Jb o,Al F rfl (Ax8 n f (j:=j) (by omega))];simp only[I,Ac,Au];rw[Cq,Nw (by omega),bK,bW,J6];refine Ok.st1 F rfl rfl (by simp;omega) ?_;have p:(C.put ll (.cells (((List.range n).map fun(z:Nat)=>I (f z)).set j (I (f j+by'))) 3)).get ll=some (.cells ((List.range n).map fun(z:Nat)=>I (Bc2 f j (f j+by') z)) 3):=by rw[Ae,Bb5]
  have G:Ar (fun i=>i=ll) C (C.put ll (.cells (((List.range n).map fun(z:Nat)=>I (f z)).set j (I (f j+by'))) 3)):=(Ar.refl (S:=fun i=>i=ll) C).Aq (.inl rfl) o _;have nb:b≠ll:=Bb L F (by intro y;injection y with _ y;cases y);have n4:h.next≠ll:=fun y=>by have:=hb _ _ O;omega
  have u:=G.at m L nb;have A:=G.at m J n4;rw[show EV.int .i64 (f j+by')=I (f j+by')from rfl];generalize C.put ll (.cells (((List.range n).map fun(z:Nat)=>I (f z)).set j (I (f j+by'))) 3)=h2 at p G u A⊢;have q:=G.hb m;have lb:=q _ _ u;have M:=q _ _ A;have o:=q _ _ p;have nk:¬(k:Int)=j:=by omega
  have fk:Bc2 f j (f j+by') k=f k:=by unfold Bc2;rw[aF nk]
  try simp only[Au]
  rw[Jb lb,Al u rfl (v:=.slice ll 0 n n false) rfl]
  try simp only[Ab,Au]
  rw[Jb M,Al A rfl (v:=I x.Ay) rfl,U]
  try simp only[I,Ab,Au]
  rw[Nw (by omega),bK,bW,Jb o,Al p rfl (Ax8 n _ (j:=k) (by omega)),fk];simp only[I,Ac,Au];rw[Cq,Nw (by omega),bK,bW,J6];refine Ok.st1 p rfl rfl (by simp;omega) ?_;refine .ret ⟨rfl,?_,(E.to.trans G).Aq (.inl rfl) o _,q.put o _⟩;rw[Ae];have:(EV.int .i64 (f k+by'))=I (f k+by'):=rfl;rw[this,Bb5];congr 2;apply cW;intro z _;congr 1;unfold Bc2 Ut;rw[s1,hj,U];by_cases e1:(z:Int)=k
  ·rw[aH e1,aH ⟨rfl,.inr e1.symm⟩,e1];omega
  ·rw[aF e1]
   by_cases e2:(z:Int)=j
   ·rw[aH e2,aH ⟨rfl,.inl e2.symm⟩,e2];omega
   ·rw[aF e2,aF (fun y=>y.2.elim (fun a=>e2 a.symm) fun a=>e1 a.symm)];omega
 ·simp only[s1,aA,Ab]
  refine .ret ⟨rfl,?_,E.to,m⟩;rw[F];congr 2;apply cW;intro z _;unfold Ut;rw[aF (fun y=>s1 y.1),Int.mul_zero,Int.add_zero]
def A3x(g:Gm)(es:List Me)(j:Int)(x:Me):List Me × Int:=if 0<=j/\j<es.length then(if meR g x=true then(es.set j.toNat x,0)else(es,10))else(es,13)
theorem Aqn{ll:Nat}{es:List Me}(s:Sm g)(m:Rl h b ml ll g es)(hb:HB h)(hz:x.state=1->Rng x.Ah/\Rng x.Ay)(j:Int):
 Ok (M0 K (.ptr b 0) (I j) (.agg x.cells) h) fun v h'=>v=I (A3x g es j x).2/\Rl h' b ml ll g (A3x g es j x).1/\Ar (fun i=>i=ml\/i=ll) h h'/\HB h':=by
 have:=s.b0;have:=s.b1;have:=s.d0;have:=s.d1;have:=s.z0;have:=s.z1;obtain⟨m0,m1⟩:=Qi (a:=g.D) (b:=g.Z) (A:=8) (B:=64) (by omega) (by omega) (by omega) (by omega);simp only[M0,Ab];obtain⟨h1,e_,x1,g5,_⟩:=nW h (.cells x.cells 47);rw[e_];have J:=x1.hb hb;have M1:=m.ext fun i o q=>x1.at hb q
 refine(Uq (K:=K) s M1 J j).Ap ?_;rintro _ h2 ⟨rfl,x2⟩;have V:=x2.hb J;simp only[Ab];refine Ok.stA (Ad _ _) rfl rfl ?_;obtain⟨h3,e_,x3,g7,_⟩:=nP h2 (.cells [EV.int .i64 0,.int .i64 0,.int .i64 0,.int .i64 0,.int .i64 0,.int .i64 0] 47) (.cells (An2 es j).1.cells 47);rw[e_];have u:=x3.hb V;have L:Ext h h3:=(x1.trans x2).trans x3;have M3:=m.ext fun i o q=>L.at hb q
 have M:=x3.at V (x2.at J g5);unfold A3x;have hlen:=m.len;by_cases hj:0<=j/\j<es.length
 ·obtain⟨k,rfl⟩:=a8 hj.1
  have hk:k<es.length:=by omega
  have eg:An2 es (k:Int)=(es[k],0):=by
   unfold An2;rw[aH hj,bD,aD hk];rfl
  rw[eg]at g7⊢;rw[aH hj];simp only[I,Ac,aC,aA,Ab,Au];have l5:=u _ _ M;have lb:=u _ _ M3.map;rw[Jb l5,Cw M rfl,Ak (n:=6) rfl]
  try simp only[Ab,Au]
  rw[Jb lb,Cr M3.map rfl (show Mo (gL g++[.slice ml 0 g.B.toNat g.B.toNat false,.slice ll 0 (g.D*g.Z).toNat (g.D*g.Z).toNat false]) 0 6=some (gL g)from rfl)]
  try simp only[Ab,Au]
  rw[show EV.agg (gL g)=gV g from rfl];refine Ok.bE (A68 (K:=K) (g:=g) (x:=x) (Dg u) hz) (fun _ _ p=>p.2) ?_;rintro _ bx h4 ⟨rfl,_⟩ _ x4;have E:=x4.hb u;have O:Ext h h4:=L.trans x4;have F:=m.ext fun i o q=>O.at hb q
  by_cases W:meR g x=true
  ·rw[aH W,W]
   simp only[Ab,Alc];have ax:=x4.at u g7;have ay:=x4.at u M;rw[Cw ax rfl,Ak (n:=6) rfl]
   try simp only[Ab]
   have hn:g.D*g.Z=((g.D*g.Z).toNat:Int):=by omega
   have bd:∀z,-1000<=Jt es z/\Jt es z<=1000:=fun z=>by have:=Ajk z es;omega
   refine(A5d (K:=K) (ml:=ml) hn (by omega) F.map F.live E (x:=es[k]) (m.ok _ (a9 hk)) (by':=-1) (.inr rfl) bd).Ap ?_;rintro _ h5 ⟨rfl,az,c5,G⟩;have nb:b≠ll:=Bb F.map F.live (by intro y;injection y with _ y;cases y);have nm:ml≠ll:=Bb F.row F.live (by intro y;injection y with _ y;cases y);have a0:b≠ml:=Bb F.map F.row (by intro y;injection y with _ y;cases y);have X:h.next≠ll:=fun y=>by have:=hb _ _ m.live;omega
   have bz:h.next≠ml:=fun y=>by have:=hb _ _ m.row;omega
   have Y:=c5.at E F.map nb;have a1:=c5.at E F.row nm;have aa:=c5.at E ay X;rw[Cw aa rfl,Ak (n:=6) rfl]
   try simp only[Ab]
   refine(A5d (K:=K) (ml:=ml) hn (by omega) Y az G (x:=x) W (f:=fun z=>Jt es z + -1*Ut z es[k]) (by':=1) (.inl rfl) (fun z=>by
    show -1000<=Jt es z + -1*Ut z es[k]/\Jt es z + -1*Ut z es[k]<=1000;have:=Ajk z es;have:=A3n z es[k];omega)).Ap ?_
   rintro _ h6 ⟨rfl,a3,c6,C⟩;have U:=c6.at G Y nb;have ab:=c6.at G a1 nm;have ad:=c6.at G aa X;have a4:=C _ _ U;have a5:=C _ _ ad;have a6:=C _ _ ab
   try simp only[Au]
   rw[Jb a4,Al U rfl (v:=.slice ml 0 g.B.toNat g.B.toNat false) rfl]
   try simp only[Ab,Au]
   rw[Jb a5,Cw ad rfl,Ak (n:=6) rfl]
   try simp only[Ab,Au]
   rw[Nw (by omega),bK,J6];have fs:L7 (es.map Me.cells).flatten (k*6) x.cells=some ((es.set k x).map Me.cells).flatten:=by
    rw[A0z (n:=6) (fun y hy=>by obtain⟨z,_,rfl⟩:=cA.1 hy;rfl) (by rw[bZ];exact hk) rfl,List.map_set]
   refine Ok.st _ ab rfl rfl fs ?_;have c7:Ar (fun i=>i=ml) h6 (h6.put ml (.cells ((es.set k x).map Me.cells).flatten 47)):=(Ar.refl (S:=fun i=>i=ml) h6).Aq (.inl rfl) a6 _;have ba:=c7.at C U a0;have bb:=c7.at C a3 (cP nm);refine .ret ⟨rfl,⟨ba,Ae _ _ _,?_,by rw[bM];exact hlen,fun y hy=>?_⟩,?_,c7.hb C⟩
   ·rw[bb]
    congr 2;apply cW;intro z _;rw[bD,A0s z x es k hk];congr 1;omega
   ·rcases cm hy with y'|rfl
    ·exact m.ok _ y'
    ·exact W
   ·exact(Ext.to O).trans (((c5.mono fun i e=>.inr e).trans (c6.mono fun i e=>.inr e)).trans (c7.mono fun i e=>.inl e))
  ·have bf:meR g x=false:=by cases h:meR g x<;>simp_all
   rw[aF W,bf];simp only[Ab];exact .ret ⟨rfl,F,O.to,E⟩
 ·have eg:An2 es j=(Me.nil 0,13):=by unfold An2;rw[aF hj]
  rw[eg,aF hj];simp only[I,Ac,show ¬((13:Int)=0) by decide,aN,aB,Ab];exact .ret ⟨rfl,M3,L.to,u⟩
theorem Azo{z q:Nat}{size:Int}{Z:Zn}(f:Fg h z q size Z)(hb:HB h):
 Ok (Gy K (.ptr z 0) h) fun v h'=>v=I (Ks Z.st)/\Fg h' z q size (if Ks Z.st=0 then Zn.empty else Z)/\Ar (fun i=>i=z) h h'/\HB h':=by
 obtain⟨s,g,r⟩:=f.Ah;have a:=hb _ _ g;simp only[Gy,Xp f,Ab,I,Ac];by_cases k:Ks Z.st=0
 ·simp only[k,aC,aA,Ab,bI,Nx]
  refine Ok.st1 g rfl rfl (by show 0<5;decide) ?_;refine Ok.st1 (Ae _ _ _) rfl rfl (by show 2<5;decide) ?_;refine Ok.st1 (Ae _ _ _) rfl rfl (by show 3<5;decide) ?_;refine Ok.st1 (Ae _ _ _) rfl rfl (by show 4<5;decide) ?_;refine .ret ⟨rfl,⟨⟨.Ao,Ae _ _ _,Cj.nil _ _ _ _⟩,fun x m=>by cases m⟩,((((Ar.refl (S:=fun i=>i=z) h).Aq (.inl rfl) a _).Aq (.inl rfl) a _).Aq (.inl rfl) a _).Aq (.inl rfl) a _,(((hb.put a _).put a _).put a _).put a _⟩
 ·simp only[k,aN,aB,Ab,ak]
  exact .ret ⟨rfl,f,Ar.refl _,hb⟩
noncomputable def Dv.reset(D:Dv)(i:Int):Dv × Int:=
 if D.E1 i≠0 then(D,D.E1 i)else
 (if Ks (D.zs i.toNat).st=0 then D.tick.set i.toNat Zn.empty else D.tick,Ks (D.zs i.toNat).st)
theorem Zn.Wf.empty {size:Nat}(h:0<size):Zn.empty.Wf size:=⟨fun x a=>(by cases a),by show 0<=4;omega,aE _,cQ _,fun _=>h⟩
theorem A4f{V:Nat}{D:Dv}{F:Nat->Prop}(d:Hc h V D F)(hb:HB h)(hs:0<D.size)(i:Int):
 Ok (Qu K (.ptr V 0) (I i) h) fun v h'=>v=I (D.reset i).2/\Hc h' V (D.reset i).1 (Bf F h h')/\Ar F h h'/\HB h':=by
 simp only[Qu,dr];refine(Adc (K:=K) d hb i).Ap ?_;rintro _ h2 ⟨rfl,d2,c2,o,L⟩;unfold Dv.reset;by_cases f:D.E1 i=0
 ·rw[aF (by rw[f];exact fun y=>y rfl),f]
  have u:D.begin i=D.tick:=by unfold Dv.begin;rw[aH f]
  rw[u]at d2;obtain⟨j,rfl,hj⟩:=Dv.A3r f;obtain⟨zl,z,q,a,b⟩:=d2.Ow;obtain⟨B,C⟩:=a.A43 (j:=j) hj;simp only[I,Ac,aC,aA,Ab,Aaz,a.list,B,C];refine(Azo (K:=K) (a.Ah j hj) o).Ap ?_;rintro _ E ⟨rfl,A,c3,p⟩
  try simp only[Ab]
  rw[show(j:Int).toNat=j from rfl];have A:Fg E (z j) (q j) D.size (if Ks (D.zs j).st=0 then Zn.empty else D.zs j):=A;by_cases G:Ks (D.zs j).st=0
  ·simp only[G,bI]at A⊢
   obtain⟨d3,m⟩:=Hc.Ah d2.wf a b d2.lt o hj (Zn.Wf.empty hs) A (c3.mono fun _=>.inl) p (fun y=>absurd rfl y);refine .ret ⟨by rw[show Ks (D.tick.zs j).st=Ks (D.zs j).st from rfl,G],d3.mono (fun i J=>?_) (Bf.lt d.lt (c2.trans m).next),c2.trans m,p⟩;rcases J with y|y
   ·exact .inl y
   ·exact .inr ⟨bN c2.next y.1,y.2⟩
  ·simp only[G,ak]at A⊢
   obtain⟨d3,m⟩:=Hc.Ah d2.wf a b d2.lt o hj (d2.wf.zs j hj) A (c3.mono fun _=>.inl) p (fun y=>.inr ⟨rfl,y⟩);have e:D.tick.set j (D.zs j)=D.tick:=by
    unfold Dv.set;have:H6 D.tick.zs j (D.zs j)=D.tick.zs:=by funext k;unfold H6;split<;>simp_all [Dv.tick]
    rw[this]
   have d3:Hc E V (D.tick.set j (D.zs j)) (Bf F h2 E):=d3;rw[e]at d3;refine .ret ⟨rfl,d3.mono (fun i J=>?_) (Bf.lt d.lt (c2.trans m).next),c2.trans m,p⟩;rcases J with y|y
   ·exact .inl y
   ·exact .inr ⟨bN c2.next y.1,y.2⟩
 ·rw[aH f]
  have u:D.begin i=D:=by unfold Dv.begin;rw[aF f]
  rw[u]at d2;simp only[I,Ac,f,aN,aB,Ab];exact .ret ⟨rfl,d2.grow d.lt c2.next,c2,o⟩
noncomputable def Jp.reset(S:Jp)(i:Int):Jp × Int:=({ S.begin i with dv:=((S.begin i).dv.reset i).1 },((S.begin i).dv.reset i).2)
theorem A3u(H:Bv disp)(O:1000<K)(hd:14<=d){D:Nat}{S:Jp}{G:Nat->Prop}(f:A20 disp K S)(s:F0 h D S G)(hb:HB h)(i:Int)(hs:0<(S.begin i).dv.size):
 Ok (Ag TT disp K d false 133 [.ptr D 0,I i] h) fun v h'=>v=I (S.reset i).2/\F0 h' D (S.reset i).1 (Bf G h h')/\Ar G h h'/\HB h':=by
 obtain⟨e,rfl⟩:∃k,d=k+1:=⟨d-1,by omega⟩;rw[Anh H (by omega)];simp only[Aii,dr];refine(Ac4 (K:=K) H (by omega) f s hb i).Ap ?_;rintro _ h2 ⟨s2,c2,m⟩;unfold Jp.reset;generalize S.begin i=T at s2 hs⊢;obtain⟨V,M,qc,qh,cs,B,ms,F,a⟩:=s2.Ow;simp only[Ab,Cs a.Dr rfl];refine(A4f (K:=K) a.dev m hs i).Ap ?_;rintro _ C ⟨rfl,d3,c3,o⟩;obtain⟨E,p⟩:=s2.put a m d3 c3;have A:=E.Bko c2.next p.next s.lt
 have c4:=c2.grow p;simp only[I,Ac];by_cases he:(T.dv.reset i).2=0
 ·simp only[he,aB,Ab,Vy]
  have J:(T.dv.reset i).1.size<=64:=d3.wf.size;refine(A53 (K:=K) i K 0 C (by show(T.dv.reset i).1.size-0<K;omega) A o).Ap ?_;rintro _ U ⟨L,q,u⟩;simp only[Tw,dr];refine .ret ⟨by rw[<-he],L.mono (fun j hj=>Bf.le q.next hj) (Bf.lt s.lt (bN c4.next q.next)),c4.grow q,u⟩
 ·simp only[he,aA,Ab,Tw]
  exact .ret ⟨rfl,A,c4,o⟩
theorem Ok.Bqh{s:DX}{call:Aa->R}{k:EV->Aa->DX->R}{P:EV->Aa->Prop}(hb:Aew b s=true)(A:Ok (call (Ke b s h)) P)(he:∀v a,P v a->Ext (Ke b s h) a)
 (B:∀v a h2,P v a->(∀i,h2.get i=if i∈loose b s.nw then h.get i else a.get i)->h2.next=a.next->Ext h h2->Ok (k v h2 (s.big i)) Q):Ok (Ev.L6 i b s h call k) Q:=by
 obtain⟨v,a,e,p⟩:=A;have x:=he v a p;have hm:h.next<=a.mw:=x.mw h.next (aE _) (aE _) fun _ y=>y.elim
 have u:∀j,(Ke b s h).get j=if j∈loose b s.nw then none else h.get j:=fun j=>by rw[Aff];exact(Aqz _ _ _).trans (by rw[Aff])
 have C:Ev.L6 i b s h call k=k v ⟨Abf h.t a.t (loose b s.nw),a.next,h.mw⟩ (s.big i):=by
  show Ba (Aew b s) (Ev.Ap (call (Ke b s h)) fun v h'=>Pk i b s h h' fun s h=>k v h s) none=_;rw[hb,Aj,e];show Pk i b s h a (fun s h=>k v h s)=_;unfold Pk;rw[aQ hm,Aj]
 rw[C];have m:∀j,(⟨Abf h.t a.t (loose b s.nw),a.next,h.mw⟩:Aa).get j=if j∈loose b s.nw then h.get j else a.get j:=fun j=>by
  rw[Aff];exact(Arj _ _ _ _).trans (by rw[Aff,Aff])
 refine B v a _ p m rfl ⟨fun j hj D=>?_,x.next,fun w w1 _ _=>w1,fun y q o f=>?_⟩
 ·rw[m]
  split
  ·rfl
  ·rename_i E
   rw[x.get j hj D,u,aF E]
 ·rw[m]at f
  split at f
  ·exact aK (y q o f) x.next
  ·exact x.hb (fun q o f=>by
    rw[u]at f;split at f
    ·cases f
    ·exact y q o f) q o f
theorem Atm {z:List EV}(a:n<=65536)(h:Aa):Uu z e (I n) (I n) h=some (.slice h.next 0 n n false,h.new (.cells (rep z n) e)):=by
 show Ba (Nat.ble n n) (Ba (Nat.ble n 65536) _ none) none=_;rw[aQ (aE _),Aj,aQ a,Aj]
theorem Asn:∀(Bt new:List EV),new.length<=Bt.length->Jd Bt new=some (new++Bt.drop new.length)
 | Bt,[],_=>by cases Bt<;>rfl
 | [],b::r,h=>by simp at h
 | a::Bt,b::r,h=>by
  show(match Jd Bt r with|some x=>some (b::x)|none=>none)=_;rw[Asn Bt r (by simpa using h)];rfl
theorem Bey{m r:Nat}{op:Bool}{t:TypeId}{Bt new:List EV}(g:h.get i=some (.cells Bt t))(k:lenOf y=some n)(p:0<n)(hm:n<=m)(f:Oq h 1 n y=some new)(o:new.length=n)(q:Bt.length=m):
 builtin TT .copy #[173,173] [.slice i 0 m r op,y] h=some (I n,h.put i (.cells (new++Bt.drop n) t)):=by
 have hu:TT.Th 173=some (.slice 5):=by kernel_rfl
 have hs:TT.size 5=some 1:=by kernel_rfl
 have hb:Nat.ble n m=true:=aQ hm;have h0:Nat.beq n 0=false:=by cases n with|zero=>omega|succ n=>rfl
 have hw:L5 h i 0 new=some (h.put i (.cells (new++Bt.drop n) t)):=by
  unfold L5;rw[g];simp only;have:Fq Bt 0 new=Jd Bt new:=by cases Bt<;>rfl
  rw[this,Asn Bt new (by omega),o]
 rw[Ao1]at f;have a:lenOf (.slice i 0 m r op)=some m:=rfl;unfold builtin;simp only[hu,hs,a,k,hb,Aj,h0,Bl,f,hw];rfl
structure Bkd(h:Aa)(P t:Nat)(out:List Nat)(S:Nat->Prop):Prop where
 Ow:∃s q,h.get P=some (.cells [s,.bool false] t)/\Cj h s q 5 1 out.length (Bj out)/\(0<out.length->P≠q/\S q)
 own:S P
theorem Bd1 {w:Nat}{a:Nat}(B:a<9223372036854775808)(hw:w<=7){out:List Nat}(C:out.length<=60000)(h0:Aa)(hS:∀i,h0.next<=i->S i):∀(m i:Nat) (h:Aa),w-i<m->i<=w->HB h->Ar S h0 h->Bkd h P t (out++T2 i a) S ->
 Ok (Iq K m (.ptr P 0) (Nk .i64 (a/256^i)) (I w) (I i) h) fun _ h'=>Bkd h' P t (out++T2 w a) S/\Ar S h0 h'/\HB h':=by
 intro m;induction m with
 | zero=>intro i h hm;omega
 | succ m u=>
  intro i h hm D hb c p;obtain⟨s,q,g,r,l⟩:=p.Ow;simp only[Iq,I,Ac,Ab];by_cases f:(i:Int)<w
  ·simp only[f,aB,Ab,Y6,Cs g rfl]
   rw[wrap_u8];have hlen:(out++T2 i a).length=out.length+i:=by rw[aG,Gu]
   refine Nu (z:=[.int .u8 0]) r hb rfl rfl rfl (by omega) (by omega) ?_;intro h2 A E c2;have k:=c2.at hb g fun y=>(l y.1).1 y.2
   have o:=(c2.hb hb) _ _ k;refine Ok.st1 k rfl rfl (by show 0<2;decide) ?_;rw[Amk];simp only[Y9,I,Ac];rw[Cq,eX,<-eL];have c3:Ar S h (h2.put P (.cells ([s,EV.bool false].set 0 (.slice (h.next+1) 0 ((out++T2 i a).length+1) ((out++T2 i a).length+1) true)) t)):=(c2.mono fun j hj=>hj.2▸(l hj.1).2).Aq (.inl p.own) o _;refine u (i+1) _ (by omega) (by omega) ((c2.hb hb).put o _) (c.trans c3) ?_;rw[Axk,<-cR];have lt:=hb _ _ g;refine⟨⟨_,h.next+1,Ae _ _ _,?_,fun _=>⟨by omega,hS _ (by have:=c.next;omega)⟩⟩,p.own⟩;have e1:((out++T2 i a)++[a/256^i%256]).length=(out++T2 i a).length+1:=by rw[aG];rfl
   have e2:Bj ((out++T2 i a)++[a/256^i%256])=Bj (out++T2 i a)++EV.cells (Nk .u8 (a/256^i%256)):=by rw[Ate];rfl
   rw[e1,e2];exact A.frame fun _=>Af _
  ·have:i=w:=by omega
   subst this;simp only[f,aA,Ab];exact .ret ⟨p,c,hb⟩
def Ahu(h:Aa)(P n:Nat)(S:Nat->Prop):Prop:=∃out,Bkd h P 233 out S/\out.length=n/\∀b∈out,b<256
theorem Ahu.chg(p:Ahu h P n S)(hb:HB h)(c:Ar T h h')(no:∀i,S i->i<h.next->¬T i):Ahu h' P n S:=by
 obtain⟨out,⟨⟨s,q,g,r,l⟩,o⟩,b⟩:=p;exact⟨out,⟨⟨s,q,c.at hb g (no _ o (hb _ _ g)),r.frame fun y=>c.get _ (hb _ _ (r.block y)) (no _ (l y).2 (hb _ _ (r.block y))),l⟩,o⟩,b⟩
theorem Ahu.mono(p:Ahu h P n S)(s:∀i,S i->T i):Ahu h P n T:=by
 obtain⟨out,⟨⟨e,q,g,r,l⟩,o⟩,b⟩:=p;exact⟨out,⟨⟨e,q,g,r,fun y=>⟨(l y).1,s _ (l y).2⟩⟩,s _ o⟩,b⟩
def Bog(S:Nat->Prop)(h:Aa):Nat->Prop:=fun i=>S i\/h.next<=i
theorem Bka {w:Nat}(A:1000<K)(p:Ahu h P n S)(hb:HB h)(E:n<=1000)(B:1<=w)(o:w<=7)(v0:0<=v)(F:v<=9223372036854775807)(G:v<(256^w:Nat)):
 Ok (D7 K (.ptr P 0) (.int .i64 w) (.int .i64 v) h) fun _ h'=>Ahu h' P (n+w) (Bog S h)/\Ar S h h'/\HB h':=by
 obtain⟨out,p,C,hu⟩:=p.mono (T:=Bog S h) fun i=>.inl
 obtain⟨a,rfl⟩:=a8 v0;have k:a<9223372036854775808:=by omega
 have q:=(A1d k B o).2 (by omega);simp only[D7,dr];have u:=Abp (K:=K) (w:Int) h;simp only[I]at u;rw[u,aP ⟨by omega,by omega⟩];simp only[Ab,Ac];have wp:=A1c (K:=K) k A h;rw[show(EV.int .i64 (a:Int))=.int .i64 (Int.ofNat a)from rfl,wp,As];simp only[Nk,Ac];rw[show decide ((w:Int)<Int.ofNat (Aez a))=false from aO (by show ¬(w:Int)<((Aez a:Nat):Int);omega)];simp only[Ab,Oe,Yq];have:=Bd1 (K:=K) (P:=P) (t:=233) (w:=w) k o (out:=out) (by omega) (S:=Bog S h) h (fun i=>.inr) K 0 h (by omega) (cQ _) hb (Ar.refl _) (by simpa [T2]using p);rw[Nat.pow_zero,Nat.div_one]at this;refine this.mono ?_;rintro _ h' ⟨D,c,m⟩;exact⟨⟨_,D,by rw[aG,Gu,C],fun b hb=>by
  rcases bJ.1 hb with y|y
  ·exact hu b y
  ·exact Y7 _ _ b y⟩,⟨fun i f hs=>c.get i f fun y=>by
   rcases y with y|y
   ·exact hs y
   ·omega,c.next,fun w1 e1 e2 e3=>c.mw w1 e1 e2 fun i f=>by
   rcases f with f|f
   ·exact e3 i f
   ·omega,c.hb⟩,m⟩
theorem A8c(o:S h.next):Ahu (h.new (.cells [.Ao,.bool false] 233)) h.next 0 S:=⟨[],⟨⟨.Ao,0,Ad _ _,Cj.nil _ _ _ _,fun y=>absurd y (bO _)⟩,o⟩,rfl,fun b hb=>by cases hb⟩
def Arn(v:EV):Prop:=∃l:List Nat,v=.agg (Bj l)/\l.length=44/\∀b∈l,b<256
theorem Asl(p:Ahu h P n S)(hb:HB h)(h0:0<n)(X:n<=44):Ok (Ai7 K (.ptr P 0) h) fun v h'=>Arn v/\Ext h h'/\HB h':=by
 obtain⟨out,a,E,hu⟩:=p;simp only[Ai7,Ab];rw[show(h.new (.cells (List.replicate 44 (EV.int .u8 0)) 165)).next=h.next+1 from rfl];have u:Ext h ((h.new (.cells (List.replicate 44 (EV.int .u8 0)) 165)).new (.cells (List.replicate 44 (EV.int .u8 0)) 165)):=(Ar.new _ _).Df _;have F:((h.new (.cells (List.replicate 44 (EV.int .u8 0)) 165)).new (.cells (List.replicate 44 (EV.int .u8 0)) 165)).get h.next=some (.cells (List.replicate 44 (EV.int .u8 0)) 165):=by
  rw[Aw _ (aL _)];exact Ad _ _
 have A:((h.new (.cells (List.replicate 44 (EV.int .u8 0)) 165)).new (.cells (List.replicate 44 (EV.int .u8 0)) 165)).get (h.next+1)=some (.cells (List.replicate 44 (EV.int .u8 0)) 165):=Ad _ _;generalize (h.new (.cells (List.replicate 44 (EV.int .u8 0)) 165)).new (.cells (List.replicate 44 (EV.int .u8 0)) 165)=h1 at u F A⊢;have f:=u.hb hb;obtain⟨⟨s,q,g,r,l⟩,_⟩:=a;refine(Avb (K:=K) (u.at hb g) (r.frame fun y=>u.get _ (hb _ _ (r.block y)) id) f (by omega)).Ap ?_;rintro _ h2 ⟨y,q',rfl,Y,G,J,lq⟩;have F:=G.at f F;have A:=G.at f A;simp only[Ab];rw[show ∀k:EV->R,Ps 44 1 (.ptr (h.next+1) 0) none none none k=k (.slice (h.next+1) 0 44 44 false)from fun k=>rfl];have B:=Y.bs (by omega);have L:=Bey (h:=h2) (i:=h.next+1) (n:=n) (m:=44) (r:=44) (op:=false) (t:=165) (Bt:=List.replicate 44 (EV.int .u8 0)) A (by rw[<-E];exact B.len) h0 X (by rw[<-E];exact B.cells) (by rw[Bg,E]) (by simp);rw[L,As];have Z:=J _ _ A;have ee:Bj out++(List.replicate 44 (EV.int .u8 0)).drop n=Bj (out++List.replicate (44-n) 0):=by
  rw[Ate,List.drop_replicate];unfold Bj;rw[fU];rfl
 rw[ee];have o:(out++List.replicate (44-n) 0).length=44:=by rw[aG,bV,E];omega
 have C:∀b∈out++List.replicate (44-n) 0,b<256:=fun b hb=>by
  rcases bJ.1 hb with y|y
  ·exact hu b y
  ·rw[bL y];decide
 generalize out++List.replicate (44-n) 0=l at o C⊢;have V:(h2.put (h.next+1) (.cells (Bj l) 165)).get (h.next+1)=some (.cells (Bj l) 165):=Ae _ _ _;have M:(h2.put (h.next+1) (.cells (Bj l) 165)).get h.next=some (.cells (List.replicate 44 (EV.int .u8 0)) 165):=by rw[Af _];exact F
 have O:=u.trans G;have U:=O.Aq (i:=h.next+1) (.inr (by omega)) Z (.cells (Bj l) 165);generalize h2.put (h.next+1) (.cells (Bj l) 165)=h5 at V M U⊢;have D:=U.hb hb;have ul:(Bj l).length=44:=by rw[Bg,o]
 rw[Cw V rfl,Ak ul];simp only[Gx];have W:=D _ _ M;refine Ok.st (Bj l) M rfl (by show Fz (Bj l)=44;rw[Bc,ul]) (Bk (by show(List.replicate 44 (EV.int .u8 0)).length=(Bj l).length;rw[ul,bV])) ?_;rw[Sx (Ae _ _ _) A1b.1 A1b.2 ul];exact .ret ⟨⟨l,rfl,o,C⟩,U.Aq (.inr (aE _)) W _,D.put W _⟩
theorem A5c{z:List EV}{v:EV}(k:Arn v)(a:h.get i=some (.cells z 165))(m:z.length=44)(x:Ext h0 h)(hb:HB h)(o:h0.next<=i):Ok (stE 44 (.ptr i 0) v h fun h=>It TT [.c (.ptr i 0) 165] h) fun v h'=>Arn v/\Ext h0 h'/\HB h':=by
 obtain⟨l,rfl,f,hu⟩:=k;have ul:(Bj l).length=44:=by rw[Bg,f]
 have lt:=hb _ _ a;refine Ok.st (Bj l) a rfl (by show Fz (Bj l)=44;rw[Bc,ul]) (Bk (by show z.length=(Bj l).length;rw[ul,m])) ?_;rw[Sx (Ae _ _ _) A1b.1 A1b.2 ul];exact .ret ⟨⟨l,rfl,f,hu⟩,x.Aq (.inr o) lt _,hb.put lt _⟩
theorem Ayq:∀(l:List (List EV)) (j:Nat) (x:List EV),(∀x∈l,x.length=n)->l[j]? = some x->Mo l.flatten (j*n) n=some x:=by
 have len:∀l:List (List EV),(∀x∈l,x.length=n)->l.flatten.length=l.length*n:=fun l=>by
  induction l with
  | nil=>intro _;simp
  | cons a r k=>intro h;rw[br,aG,h a (aW ..),k fun x f=>h x (aR _ f),bF,fD];omega
 intro l j x m f;have hj:=(aY.1 f).1;rw[E7 (by rw[len l m];have:=Nat.mul_le_mul_right n (show j+1<=l.length from hj);rw[fD]at this;exact this)];congr 1;induction l generalizing j with
 | nil=>cases f
 | cons a r k=>
  have o:=m a (aW ..);cases j with
  | zero=>
   rw[bH]at f;cases f;rw[fS,dF,br,<-o,eW]
  | succ j=>
   rw[bY]at f;rw[br,fD,show j*n+n=a.length+j*n by omega,<-dZ,fm];exact k j (fun x f=>m x (aR _ f)) f (aY.1 f).1
theorem Ok.stW{z:List EV}(f:h.get i=some (.cells z t))(k:z.length=n)(a:xs.length=n)(m:Ok (kk (h.put i (.cells xs t))) Q):Ok (stE n (.ptr i 0) (.agg xs) h kk) Q:=
 Ok.st xs f rfl (by show Fz xs=n;rw[Bc,a]) (Bk (by show z.length=xs.length;rw[a,k])) m
theorem Ahu.less(p:Ahu h P n S)(hb:HB h)(t:∀i,S i->i<h.next->T i):Ahu h P n T:=by
 obtain⟨out,⟨⟨e,q,g,r,l⟩,o⟩,b⟩:=p;exact⟨out,⟨⟨e,q,g,r,fun y=>⟨(l y).1,t _ (l y).2 (hb _ _ (r.block y))⟩⟩,t _ o (hb _ _ g)⟩,b⟩
theorem Q1 {w:Nat}(k:1000<K)(p:Ahu h P n S)(hb:HB h)(hS:∀i,h.next<=i->S i)(m:n<=1000)(o:1<=w)(q:w<=7)(v0:0<=v)(u:v<=9223372036854775807)(A:v<(256^w:Nat)):
 Ok (D7 K (.ptr P 0) (.int .i64 w) (.int .i64 v) h) fun _ h'=>Ahu h' P (n+w) S/\Ar S h h'/\HB h'/\∀i,h'.next<=i->S i:=
 (Bka k p hb m o q v0 u A).mono fun _ _ ⟨a,c,b⟩=>⟨a.mono fun i f=>f.elim id (hS i),c,b,fun i f=>hS i (bN c.next f)⟩
theorem Agb{ll:Nat}{es:List Me}(m:Rl h b ml ll g es)(hb:HB h):Ok (Nv K (.ptr b 0) h) fun v h'=>v=gV g/\Ext h h'/\HB h':=by
 simp only[Nv,Ab];have a:Ext h (h.new (.cells [EV.int .i64 0,.int .i64 0,.int .i64 0,.int .i64 0,.int .i64 0,.int .i64 0] 23)):=Ar.new _ _;have k:=a.hb hb;rw[Cw (a.at hb m.map) rfl,show Mo (gL g++[.slice ml 0 g.B.toNat g.B.toNat false,.slice ll 0 (g.D*g.Z).toNat (g.D*g.Z).toNat false]) 0 6=some (gL g)from rfl];simp only[Ab];refine Ok.st (gL g) (Ad _ _) rfl rfl (Bk rfl) ?_;rw[Sx (Ae _ _ _) Bl4.1 Bl4.2 rfl];have f:=a.Aq (i:=h.next) (.inr (aE _)) (aL _) (.cells (gL g) 23);exact .ret ⟨rfl,f,f.hb hb⟩
theorem Bjm(s:Sm g)(h:meR g x=true):(0<=x.state/\x.state<=2)/\(0<=x.Ah/\x.Ah<=511)/\(0<=x.Ay/\x.Ay<=511)/\(0<=x.off/\x.off<=63)/\(0<=x.seq/\x.seq<=281474976710655)/\(0<=x.sum/\x.sum<=4294967295):=by
 have:=s.d0;have:=s.d1;have:=s.z0;have:=s.z1;have:=s.s1;obtain⟨m,m1⟩:=Qi (a:=g.D) (b:=g.Z) (A:=8) (B:=64) (by omega) (by omega) (by omega) (by omega);unfold meR at h;split at h
 ·rename_i h0
  rw[dI h];unfold Me.nil;refine⟨?_,?_,?_,?_,?_,?_⟩<;>simp only<;>omega
 ·split at h
  ·unfold meB Sk at h
   simp only[aV,Ec,aU]at h;obtain⟨⟨_,⟨a,b⟩,c,d⟩,⟨_,⟨e,f⟩,_⟩,_,i,j,k,l⟩:=h;refine⟨?_,?_,?_,?_,?_,?_⟩<;>omega
  ·cases h
theorem Bib{es:List Me}(h:∀x∈es,meR g x=true)(j:Int):meR g (An2 es j).1=true:=by
 have n0:meR g (Me.nil 0)=true:=by unfold meR;rw[aH (.inl rfl)];exact aP rfl
 unfold An2;split
 ·cases a:es[j.toNat]? with
  | none=>exact n0
  | some y=>exact h y (bU a)
 ·exact n0
theorem A5q(sm:Sm g)(V:meR g x=true)(f:1000<K)(p:Ahu h P n S)(hb:HB h)(hS:∀i,h.next<=i->S i)(hn:n<=900):
 Ok (Asj K (.ptr P 0) (.agg x.cells) h) fun _ h'=>Ahu h' P (n+16) S/\Ar S h h'/\HB h'/\∀i,h'.next<=i->S i:=by
 obtain⟨b1,b2,b3,b4,b5,b6⟩:=Bjm sm V;simp only[Asj,Ab];obtain⟨E,W,B,F,n1⟩:=nW h (.cells x.cells 47);rw[W];have m:=B.hb hb;have t1:∀i,E.next<=i->S i/\i≠h.next:=fun i k=>⟨hS i (by omega),by omega⟩
 have p1:Ahu E P n (fun i=>S i/\i≠h.next):=(p.less hb (T:=fun i=>S i/\i≠h.next) fun i a b=>⟨a,by omega⟩).chg hb B fun _ _ _=>id
 rw[Al F rfl (v:=I x.state) rfl];refine(Q1 f p1 m t1 (by omega) (w:=1) (by omega) (by omega) (v:=x.state) (by omega) (by omega) (by omega)).Ap ?_;rintro _ h2 ⟨X,c2,o,t2⟩;have G:=c2.at m F fun y=>y.2 rfl
 rw[Al G rfl (v:=I x.Ah) rfl];refine(Q1 f X o t2 (by omega) (w:=2) (by omega) (by omega) (v:=x.Ah) (by omega) (by omega) (by omega)).Ap ?_;rintro _ h3 ⟨Y,c3,q,t3⟩;have J:=c3.at o G fun y=>y.2 rfl
 rw[Al J rfl (v:=I x.Ay) rfl];refine(Q1 f Y q t3 (by omega) (w:=2) (by omega) (by omega) (v:=x.Ay) (by omega) (by omega) (by omega)).Ap ?_;rintro _ h4 ⟨Z,c4,u,t4⟩;have L:=c4.at q J fun y=>y.2 rfl
 rw[Al L rfl (v:=I x.off) rfl];refine(Q1 f Z u t4 (by omega) (w:=1) (by omega) (by omega) (v:=x.off) (by omega) (by omega) (by omega)).Ap ?_;rintro _ h5 ⟨p5,M,A,t5⟩;have O:=M.at u L fun y=>y.2 rfl
 rw[Al O rfl (v:=I x.seq) rfl];refine(Q1 f p5 A t5 (by omega) (w:=6) (by omega) (by omega) (v:=x.seq) (by omega) (by omega) (by omega)).Ap ?_;rintro _ h6 ⟨p6,U,C,t6⟩;have g6:=U.at A O fun y=>y.2 rfl
 rw[Al g6 rfl (v:=I x.sum) rfl];refine(Q1 f p6 C t6 (by omega) (w:=4) (by omega) (by omega) (v:=x.sum) (by omega) (by omega) (by omega)).Ap ?_;rintro _ h7 ⟨p7,c7,D,t7⟩;exact .ret ⟨p7.mono fun i k=>k.1,(B.mono fun _=>False.elim).trans (((((c2.trans c3).trans c4).trans M).trans U).trans c7|>.mono fun i k=>k.1),D,fun i k=>(t7 i k).1⟩
theorem A22(L:1000<K){ll:Nat}(s:Sm g){es:List Me}(m:Rl h b ml ll g es)(hb:HB h){x:EV}{sq:Int}(q0:0<=sq)(q1:sq<=281474976710655):
 Ok (Ao5 K (.agg [x,y,I sq,.ptr b 0]) h) fun v h'=>Arn v/\Ext h h'/\HB h':=by
 simp only[Ao5,Ab];have M:Ext h ((h.new (.cells [x,y,I sq,.ptr b 0] 160)).new (.cells (List.replicate 44 (.int .u8 0)) 165)):=(Ar.new _ _).Df _;have g1:((h.new (.cells [x,y,I sq,.ptr b 0] 160)).new (.cells (List.replicate 44 (.int .u8 0)) 165)).get h.next=some (.cells [x,y,I sq,.ptr b 0] 160):=by rw[Aw _ (aL _)];exact Ad _ _
 have f1:((h.new (.cells [x,y,I sq,.ptr b 0] 160)).new (.cells (List.replicate 44 (.int .u8 0)) 165)).get (h.next+1)=some (.cells (List.replicate 44 (.int .u8 0)) 165):=Ad _ _;have n1:((h.new (.cells [x,y,I sq,.ptr b 0] 160)).new (.cells (List.replicate 44 (.int .u8 0)) 165)).next=h.next+2:=rfl
 generalize (h.new (.cells [x,y,I sq,.ptr b 0] 160)).new (.cells (List.replicate 44 (.int .u8 0)) 165)=h1 at M g1 f1 n1⊢;have U:=M.hb hb;rw[Al g1 rfl (v:=.ptr b 0) rfl];refine(Agb (K:=K) (m.frame (M.get _ (hb _ _ m.map) id) (M.get _ (hb _ _ m.row) id) (M.get _ (hb _ _ m.live) id)) U).Ap ?_;rintro _ h2 ⟨rfl,x2,V⟩;have g2:=x2.at U g1;have f2:=x2.at U f1;refine Ok.stW (xs:=gL g) (Ad _ _) rfl rfl ?_;rw[Ax (l:=[.Ao,.bool false]) rfl];simp only[Ab];obtain⟨o,e_,x3,e3,n3⟩:=nP h2 (.cells [EV.int .i64 0,.int .i64 0,.int .i64 0,.int .i64 0,.int .i64 0,.int .i64 0] 23) (.cells (gL g) 23);rw[e_];have p:=x3.hb V;have x4:Ext o (o.new (.cells [.Ao,.bool false] 233)):=Ar.new _ _;have p4:Ahu (o.new (.cells [.Ao,.bool false] 233)) o.next 0 (fun i=>o.next<=i):=A8c (aE _)
 have n4:(o.new (.cells [.Ao,.bool false] 233)).next=o.next+1:=rfl
 generalize o.new (.cells [.Ao,.bool false] 233)=h4 at x4 p4 n4⊢;have q:=x4.hb p;have g4:=x4.at p (x3.at V g2);have f4:=x4.at p (x3.at V f2);have e4:=x4.at p e3;have l1:=x2.next
 have W:¬o.next<=h.next:=by omega
 have X:¬o.next<=h.next+1:=by omega
 have Y:¬o.next<=h2.next:=by omega
 have:=s.d0;have:=s.d1;have:=s.z0;have:=s.z1;have:=s.s0;have:=s.s1;have:=s.b0;have:=s.b1;have:=s.p0;have:=s.p1;have:=s.o0;have:=s.o1;have t4:∀i,h4.next<=i->o.next<=i:=fun i hi=>by omega
 rw[Al g4 rfl (v:=I sq) rfl];refine(Q1 L p4 q t4 (by omega) (w:=6) (by omega) (by omega) (v:=sq) (by omega) (by omega) (by omega)).Ap ?_;rintro _ h5 ⟨p5,c5,u,t5⟩;have g5:=c5.at q g4 W;have f5:=c5.at q f4 X;have e5:=c5.at q e4 Y;rw[Al e5 rfl (v:=I g.D) rfl];refine(Q1 L p5 u t5 (by omega) (w:=1) (by omega) (by omega) (v:=g.D) (by omega) (by omega) (by omega)).Ap ?_;rintro _ h6 ⟨p6,c6,A,t6⟩;have g6:=c6.at u g5 W;have f6:=c6.at u f5 X;have e6:=c6.at u e5 Y;rw[Al e6 rfl (v:=I g.Z) rfl];refine(Q1 L p6 A t6 (by omega) (w:=1) (by omega) (by omega) (v:=g.Z) (by omega) (by omega) (by omega)).Ap ?_;rintro _ h7 ⟨p7,c7,C,t7⟩;have g7:=c7.at A g6 W;have f7:=c7.at A f6 X;have e7:=c7.at A e6 Y;rw[Al e7 rfl (v:=I g.S) rfl];refine(Q1 L p7 C t7 (by omega) (w:=1) (by omega) (by omega) (v:=g.S) (by omega) (by omega) (by omega)).Ap ?_;rintro _ h8 ⟨p8,c8,E,t8⟩;have g8:=c8.at C g7 W;have f8:=c8.at C f7 X;have e8:=c8.at C e7 Y;rw[Al e8 rfl (v:=I g.B) rfl];refine(Q1 L p8 E t8 (by omega) (w:=2) (by omega) (by omega) (v:=g.B) (by omega) (by omega) (by omega)).Ap ?_;rintro _ h9 ⟨p9,c9,F,t9⟩;have g9:=c9.at E g8 W;have f9:=c9.at E f8 X;have e9:=c9.at E e8 Y;rw[Al e9 rfl (v:=I g.P) rfl];refine(Q1 L p9 F t9 (by omega) (w:=1) (by omega) (by omega) (v:=g.P) (by omega) (by omega) (by omega)).Ap ?_;rintro _ bn ⟨aq,G,f,t10⟩;have au:=G.at F g9 W;have f10:=G.at F f9 X;have e10:=G.at F e9 Y;rw[Al e10 rfl (v:=I g.O) rfl];refine(Q1 L aq f t10 (by omega) (w:=1) (by omega) (by omega) (v:=g.O) (by omega) (by omega) (by omega)).Ap ?_;rintro _ bo ⟨aw,k,J,t11⟩;have bp:=k.at f au W;have f11:=k.at f f10 X;have e11:=k.at f e10 Y;refine(Asl aw J (by omega) (by omega)).Ap ?_;rintro v ax ⟨hv,ab,ad⟩;have x5:Ext h h4:=((M.trans x2).trans x3).trans x4;have k:=((((((c5.trans c6).trans c7).trans c8).trans c9).trans G).trans k);have x:Ext h ax:=(x5.then k fun i a b=>by have:=M.next;omega).trans ab;exact A5c hv (ab.at J f11) (by simp) x ad (by show h.next<=h.next+1;omega)
theorem Azk {es:List Me}(J:1000<K){h4:Aa}{ll n3 r:Nat}(s:Sm g){l:List EV}(L:l[3]? = some (.ptr b 0)){j:Int}(j0:1<=j)(j1:j<=255)(M:∀h,Ar (fun i=>n3<=i) h4 h->Ext h0 h)(O:h0.next<=r)(k1:t<n3)(k2:r<n3)(k3:b<n3)(k4:ml<n3)(k5:ll<n3):∀(n i:Nat) (h:Aa),2-i<n->i<=2->HB h->(∀i,h.next<=i->n3<=i)->Ar (fun i=>n3<=i) h4 h->Ahu h P (1+16*i) (fun i=>n3<=i)->Rl h b ml ll g es->h.get t=some (.cells l 160)->h.get r=some (.cells (List.replicate 44 (.int .u8 0)) 165) ->
 Ok (Xc K n (I j) (.ptr t 0) (.ptr r 0) (.ptr P 0) (I i) h) fun v h'=>Arn v/\Ext h0 h'/\HB h':=by
 intro n;induction n with
 | zero=>intro i h U;omega
 | succ n V=>
  intro i h U B hb W c p m gt C;rw[Xc];simp only[I,Ac,Ab];by_cases X:i<2
  ·have:decide ((i:Int)<2)=true:=by simp;omega
   simp only[this,Ab,Atk];rw[Al gt rfl L];simp only[Ac];rw[show De .i64 (j-1)=j-1 from Cq,show De .i64 (2*(j-1))=2*(j-1)from Cq,show De .i64 (2*(j-1)+i)=2*(j-1)+i from Cq];refine(Uq (K:=K) s m hb (2*(j-1)+i)).Ap ?_;rintro _ h2 ⟨rfl,D⟩;have q:=D.hb hb;have E:=Bib m.ok (2*(j-1)+(i:Int));generalize (An2 es (2*(j-1)+(i:Int))).1=x at E⊢;simp only[Ab];refine Ok.mk rfl rfl fun h3 F e3 _=>?_
   have u:=F.hb q;rw[Cr e3 rfl (Ak (n:=6) rfl)];have f:=D.trans F;refine(A5q s E J (p.chg hb f fun _ _ _=>id) u (fun i B=>W i (bN f.next B)) (by omega)).Ap ?_;rintro _ G ⟨Y,Z,A,t5⟩;have a:Ar (fun i=>n3<=i) h G:=(Ext.to f).trans Z;simp only[Atg,I,Ac];rw[Cq,show((i:Nat):Int)+1=((i+1:Nat):Int) by omega];refine V (i+1) G (by omega) (by omega) A t5 (c.trans a) ?_ ?_ ?_ ?_
   ·rw[Nat.mul_succ,<-Nat.add_assoc];exact Y
   ·exact m.frame (a.get _ (hb _ _ m.map) (by omega)) (a.get _ (hb _ _ m.row) (by omega)) (a.get _ (hb _ _ m.live) (by omega))
   ·exact a.at hb gt (by omega)
   ·exact a.at hb C (by omega)
  ·have:decide ((i:Int)<2)=false:=by simp;omega
   have:i=2:=by omega
   subst this;simp only[this,Ab,As8];refine(Asl p hb (by omega) (by omega)).Ap ?_;rintro v aa ⟨hv,k,o⟩;exact A5c hv (k.at hb C) (by simp) ((M h c).trans k) o O
theorem A2t(D:1000<K){ll:Nat}(s:Sm g){es:List Me}(m:Rl h b ml ll g es)(hb:HB h){x z:EV}{j:Int}(G:1<=j)(J:j<=255):
 Ok (Aow K (.agg [x,y,z,.ptr b 0]) (I j) h) fun v h'=>Arn v/\Ext h h'/\HB h':=by
 simp only[Aow,Ab];rw[Ax (l:=[.Ao,.bool false]) rfl];simp only[Ab];have B:Ext h ((h.new (.cells [x,y,z,.ptr b 0] 160)).new (.cells (List.replicate 44 (.int .u8 0)) 165)):=(Ar.new _ _).Df _;have E:((h.new (.cells [x,y,z,.ptr b 0] 160)).new (.cells (List.replicate 44 (.int .u8 0)) 165)).get h.next=some (.cells [x,y,z,.ptr b 0] 160):=by rw[Aw _ (aL _)];exact Ad _ _
 have f1:((h.new (.cells [x,y,z,.ptr b 0] 160)).new (.cells (List.replicate 44 (.int .u8 0)) 165)).get (h.next+1)=some (.cells (List.replicate 44 (.int .u8 0)) 165):=Ad _ _;have L:((h.new (.cells [x,y,z,.ptr b 0] 160)).new (.cells (List.replicate 44 (.int .u8 0)) 165)).next=h.next+2:=rfl
 rw[show(h.new (Dt.cells [x,y,z,EV.ptr b 0] 160)).next=h.next+1 from rfl];generalize (h.new (.cells [x,y,z,.ptr b 0] 160)).new (.cells (List.replicate 44 (.int .u8 0)) 165)=k at B E f1 L⊢;have o:=B.hb hb;have q:Ext k (k.new (.cells [.Ao,.bool false] 233)):=Ar.new _ _;have F:Ahu (k.new (.cells [.Ao,.bool false] 233)) k.next 0 (fun i=>k.next<=i):=A8c (aE _)
 have n4:(k.new (.cells [.Ao,.bool false] 233)).next=k.next+1:=rfl
 generalize k.new (.cells [.Ao,.bool false] 233)=h4 at q F n4⊢;have f:=q.hb o;have l1:=hb _ _ m.map;have M:=hb _ _ m.row;have O:=hb _ _ m.live;have u:=B.trans q;refine(Q1 D F f (fun i W=>by omega) (by omega) (w:=1) (by omega) (by omega) (v:=j) (by omega) (by omega) (by omega)).Ap ?_;rintro _ U ⟨V,p,C,t5⟩;refine Azk (es:=es) (n3:=k.next) D s rfl G J (h0:=h) (h4:=h4) (b:=b) (ml:=ml) (ll:=ll) (fun h' c=>u.then c fun i a b=>by omega) (Nat.le_succ _) (by omega) (by omega) (by omega) (by omega) (by omega) K 0 U (by omega) (by omega) C t5 p V ?_ (p.at f (q.at o E) (by omega)) (p.at f (q.at o f1) (by omega));have A:=m.frame (u.get _ l1 id) (u.get _ M id) (u.get _ O id);exact A.frame (p.get _ (f _ _ A.map) (by omega)) (p.get _ (f _ _ A.row) (by omega)) (p.get _ (f _ _ A.live) (by omega))
section
theorem Bql:(E4 TT 131 0).2.1 = [29,30]:=by kernel_rfl
def Avu(sq:Int)(es:List Me):Bool:=es.any fun x=>decide (sq<=x.seq)
structure Bc5(h:Aa)(l0 d0:Nat)(tm:Az)(b1 b2:Nat)(x y w:EV)(sq:Int)(found:Bool):Prop where
 lp:h.get l0=some (Av TT 131 36 0 tm (if found then .done else .ready) (if found then some .ret else none) d0)
 c1:h.get b1=some (.cells [x,y,I sq,w] 160)
 c2:h.get b2=some (.cells [.bool false] 4)
 hb:HB h
section
variable (H:Bv disp)
include H
theorem A7z(he:2<=e){l0 d0 b1:Nat}{x w:EV}{sq i:Int}{z:Me}(C:Bc5 h l0 d0 tm b1 b2 x y w sq false)(t1:tmp tm 1=.ptr b1 0)(t2:tmp tm 2=.ptr b2 0):
 ∃h',Ag TT disp K (e+1) true l0 [I i,.agg z.cells] h=some (.bool (decide (¬sq<=z.seq)),h')/\Bc5 h' l0 d0 tm b1 b2 x y w sq (decide (sq<=z.seq))/\Ar (fun j=>j=l0\/j=b2) h h':=by
 have q:=C.lp;simp only[aX,ak]at q;have k:=q;have J:=C.c1;have L:=C.c2;have hb:=C.hb;unfold Av at k;rw[Bql]at k;rw[Akn H he tm h (I i) _ k,t1,t2];have V:=hb _ _ q;have m:l0≠b1:=Bb q J (by simp[Av]);have f:l0≠b2:=Bb q L (by simp[Av]);have M:b1≠b2:=Bb J L (by intro y;injection y with _ y;cases y);simp only[Aeb,Ab];rw[Anp (h:=h.new (.cells [EV.int .i64 0,.int .i64 0,.int .i64 0,.int .i64 0,.int .i64 0,.int .i64 0] 47)) (i:=h.next) (o:=0) (n:=6) (v:=.agg z.cells) (l:=[EV.int .i64 0,.int .i64 0,.int .i64 0,.int .i64 0,.int .i64 0,.int .i64 0]) (t:=47) (l':=z.cells) (Ad _ _) rfl rfl (Bk rfl)];obtain⟨p,W,u,e3,_⟩:=nP h (.cells [EV.int .i64 0,.int .i64 0,.int .i64 0,.int .i64 0,.int .i64 0,.int .i64 0] 47) (.cells z.cells 47);rw[W];have A:=u.hb hb;have q0:=u.at hb q;have O:=A _ _ q0;rw[Yp q0];have c4:Ar (fun j=>j=l0\/j=b2) h (p.put l0 (Av TT 131 36 0 tm .busy none d0)):=(Ext.to (S:=fun j=>j=l0\/j=b2) u).Aq (.inl (.inl rfl)) O _;have r0:(p.put l0 (Av TT 131 36 0 tm .busy none d0)).get l0=some (Av TT 131 36 0 tm .busy none d0):=Ae _ _ _;have D:(p.put l0 (Av TT 131 36 0 tm .busy none d0)).get b1=some (.cells [x,y,I sq,w] 160):=by rw[Af _ m];exact u.at hb J
 have E:(p.put l0 (Av TT 131 36 0 tm .busy none d0)).get b2=some (.cells [.bool false] 4):=by rw[Af _ f];exact u.at hb L
 have U:(p.put l0 (Av TT 131 36 0 tm .busy none d0)).get h.next=some (.cells z.cells 47):=by rw[Af _];exact e3
 have a:HB (p.put l0 (Av TT 131 36 0 tm .busy none d0)):=A.put O _;generalize p.put l0 (Av TT 131 36 0 tm .busy none d0)=h4 at c4 r0 D E U a⊢;have F:=a _ _ r0;have B:=a _ _ E;simp only[Xq,Ab];rw[Al U rfl (v:=I z.seq) rfl,Al D rfl (v:=I sq) rfl];simp only[I,Ac];by_cases G:sq<=z.seq
 ·have e1:decide (z.seq≥sq)=true:=aP G
  simp only[e1,Ab,G,aC,aA,aB];rw[Anp (o:=0) (n:=1) (v:=.bool false) (l':=[.bool false]) E rfl rfl rfl,Q6 (by rw[Af _ (cP f)];exact r0)];exact⟨_,rfl,⟨Ae _ _ _,by rw[Af _ m,Af _ (cP M)];exact D,by rw[Af _ f];exact Ae _ _ _,(a.put B _).put (by rw[Aa.Pr];exact F) _⟩,(c4.Aq (.inl (.inr rfl)) B _).Aq (.inl (.inl rfl)) (by rw[Aa.Pr];exact F) _⟩
 ·have e1:decide (z.seq≥sq)=false:=aO G
  simp only[e1,Ab,G,aN,aA,aB];rw[Q6 r0];exact⟨_,rfl,⟨Ae _ _ _,by rw[Af _ m];exact D,by rw[Af _ f];exact E,a.put F _⟩,c4.Aq (.inl (.inl rfl)) F _⟩
theorem A99(he:3<=e){es:List Me}{l0 d0 b1:Nat}{x w:EV}{sq:Int}(M:es.length<=256)(t1:tmp tm 1=.ptr b1 0)(t2:tmp tm 2=.ptr b2 0):∀(m i:Nat) (h:Aa),es.length-i<m->i<=es.length->Bc5 h l0 d0 tm b1 b2 x y w sq false ->
 h.get ml=some (.cells (es.map Me.cells).flatten 47)->ml≠l0->ml≠b2 ->
 Ok (Bz (Ag TT disp K e false) (Ag TT disp K e true) K m (.Uv l0) (.slice ml 0 es.length es.length false) (I es.length) (I i) h) fun _ h'=>Bc5 h' l0 d0 tm b1 b2 x y w sq (Avu sq (es.drop i))/\Ar (fun j=>j=l0\/j=b2) h h':=by
 intro m;induction m with
 | zero=>intro i h hm;omega
 | succ m F=>
  intro i h hm O f E p q;rw[Bz];simp only[I,Ac,Ab];by_cases o:i<es.length
  ·have:decide ((i:Int)<(es.length:Int))=true:=by simp;omega
   simp only[this,Ab,F1];rw[Nw o,bK,Cr E rfl (Axd es o)];rw[show Avu sq (es.drop i)=(decide (sq<=es[i].seq)||Avu sq (es.drop (i+1))) by rw[cq o];rfl];generalize es[i]=z
   try simp only[Ab]
   refine Ok.mk rfl rfl fun C u e3 _=>?_
   have D:=u.hb f.hb;rw[Cr e3 rfl (Ak (n:=6) rfl)];obtain⟨e,rfl⟩:∃k,e=k+1:=⟨e-1,by omega⟩;have G:S7 (Ag TT disp K (e+1) false) (Ag TT disp K (e+1) true) (.Uv l0) [.int .i64 (i:Int),.agg z.cells] C=Ag TT disp K (e+1) true l0 [I i,.agg z.cells] C:=rfl;obtain⟨h4,J,A,c4⟩:=A7z (K:=K) H (e:=e) (by omega) (i:=i) (z:=z) (⟨u.at f.hb f.lp,u.at f.hb f.c1,u.at f.hb f.c2,D⟩:Bc5 C l0 d0 tm b1 b2 x y w sq false) t1 t2;rw[G,J,As];have c:Ar (fun j=>j=l0\/j=b2) h h4:=(Ext.to u).trans c4;by_cases B:sq<=z.seq
   ·simp only[B,aB]at A
    simp only[B,aC,aA,Ab,aB,Bool.true_or];exact .ret ⟨A,c⟩
   ·simp only[B,aA]at A
    simp only[B,aN,aB,aA,Ab,Bool.false_or,Fy,Ac];rw[Cq,show((i:Nat):Int)+1=((i+1:Nat):Int) by omega];refine(F (i+1) h4 (by omega) (by omega) A (c.at f.hb E fun y=>y.elim p q) p q).mono ?_;rintro _ U ⟨a,L⟩;exact⟨a,c.trans L⟩
  ·have:decide ((i:Int)<(es.length:Int))=false:=by simp;omega
   have e0:es.drop i = []:=List.drop_eq_nil_of_le (by omega);rw[e0];simp only[this,Ab];exact .ret ⟨f,Ar.refl _⟩
omit H in
theorem Ayv {l:Int}(h:Aa):Rt K (I v) (I l) h=some (.bool (decide (1<=v)&&decide (v<=l)),h):=by
 simp only[Rt,Aom,I,Ac,Ab];by_cases a:1<=v<;>by_cases h2:v<=l<;>simp[a,h2,Ab]
end
end
section
def snR(x y z:Int)(es:List Me):Bool:=(decide (1<=x)&&decide (x<=281474976710655))&&((decide (1<=y)&&decide (y<=4294967295))&&((decide (1<=z)&&decide (z<=281474976710655))&&!Avu z es))
theorem Aiw {a:Aa}{q:Nat}{b:Bool}(f:a.get q=some (.cells [.bool b] 4)):It TT [.c (.ptr q 0) 4] a=some (.bool b,a):=by
 have k:Ir a q 0 1=some [.bool b]:=by unfold Ir;rw[f];rfl
 unfold It;simp only[Awm,show TT.size 4=some 1 by kernel_rfl,show TT.agg 4=some false by kernel_rfl,k]
section
variable (H:Bv disp)
include H
theorem Ax7(he:4<=e)(hK:1000<K){p:Aa}(w1:Ext h0 p){ll b1:Nat}{es:List Me}(s:Sm g)(m:Rl p b ml ll g es)(f:HB p)(l1:h0.next<=b1)(l2:h0.next<=b2)(lm:ml<h0.next){x:EV}{z:Int}(V:p.get b1=some (.cells [x,y,I z,.ptr b 0] 160))(f1:p.get b2=some (.cells [.bool false] 4))(t1:tmp tm 1=.ptr b1 0)(t2:tmp tm 2=.ptr b2 0):
 Ok (U1 (Ag TT disp K e false) (Ag TT disp K e true) K tm (.ptr b1 0) (.ptr b2 0) p []) fun v h'=>v=.bool (!Avu z es)/\Ext h0 h'/\HB h':=by
 have:=s.b0;have:=s.b1;have hlen:=m.len;simp only[U1,Ab];rw[Al V rfl (v:=.ptr b 0) rfl];simp only[Wj,Ab,E5];rw[Al m.map rfl (v:=.slice ml 0 g.B.toNat g.B.toNat false) rfl,<-hlen];simp only[Ab];obtain⟨h2,e_,x2,q2,n2⟩:=nW p (.cells [.slice ml 0 es.length es.length false] 113);rw[e_];have D:=x2.hb f;have E:tmp (((tm.put 26 (some (.ptr b1 3))).put 27 (some (.ptr b 0))).put 28 (some (.func 104 [] [.ptr p.next 0]))) 1=.ptr b1 0:=by simp only[Ih,reduceIte,Nat.reduceEqDiff];exact t1
 have F:tmp (((tm.put 26 (some (.ptr b1 3))).put 27 (some (.ptr b 0))).put 28 (some (.func 104 [] [.ptr p.next 0]))) 2=.ptr b2 0:=by simp only[Ih,reduceIte,Nat.reduceEqDiff];exact t2
 generalize (((tm.put 26 (some (.ptr b1 3))).put 27 (some (.ptr b 0))).put 28 (some (.func 104 [] [.ptr p.next 0])))=tm at E F⊢;obtain⟨e,rfl⟩:∃k,e=k+1:=⟨e-1,by omega⟩;refine Ok.range ?_;have L:Ext h2 (Cd TT 131 36 0 tm h2):=Jf;have W:(Cd TT 131 36 0 tm h2).get h2.next=some (.deferred true):=K9
 have k1:(Cd TT 131 36 0 tm h2).get (h2.next+1)=some (Av TT 131 36 0 tm .ready none h2.next):=Jn;generalize Cd TT 131 36 0 tm h2=M at L W k1⊢;have u:=L.hb D;have q:Ext p M:=x2.trans L;have aj:=f _ _ V;have al:=f _ _ f1;have ao:=f _ _ m.row;rw[I8 H (cQ _)];simp only[Gr,dr];rw[Al (L.at D q2) rfl (v:=.slice ml 0 es.length es.length false) rfl];simp only[Ab];have I3:Bc5 M (h2.next+1) h2.next tm b1 b2 x y (.ptr b 0) z false:=⟨k1,q.at f V,q.at f f1,u⟩
 refine(A99 (K:=K) H (e:=e) (by omega) (es:=es) (ml:=ml) (by omega) E F K 0 M (by omega) (by omega) I3 (q.at f m.row) (by omega) (by omega)).mono ?_;rw[dF];rintro _ h4 ⟨G,c4⟩;have au:=w1.next
 have O:=G.hb _ _ G.lp;have k2:h2.next<M.next:=u _ _ W
 have kd:h4.get h2.next=some (.deferred true):=c4.at u W (by omega)
 have x4:Ext h0 h4:=(w1.trans q).then c4 fun i U a=>by omega
 have ne:h2.next≠b2:=by omega
 have lp:=G.lp;have c2:=G.c2;have J:=G.hb;revert lp;generalize Avu z es=bb;intro lp;cases bb with
 | true=>
  simp only[bI]at lp;refine .inr ⟨lp,?_⟩;have o:HB (h4.put (h2.next+1) (Av TT 131 36 0 tm .exhausted (some .ret) h2.next)):=J.put O _;refine Ok.unwind (cB.2 ⟨by simp,dG⟩) (fun d hd=>by rw[aM]at hd;subst hd;rw[Af _];exact kd) o fun X A _=>?_
  have Y:X.get b2=some (.cells [.bool false] 4):=Ar.at A o (by rw[Af _];exact c2) (by rw[aM];omega);rw[Aiw Y];exact .ret ⟨rfl,(x4.Aq (.inr (by omega)) O _).then A fun i U a=>by rw[aM]at U;omega,A.hb o⟩
 | false=>
  simp only[aX,ak]at lp;refine .inl ⟨lp,?_⟩;simp only[Uw,dr];have o:HB (h4.put (h2.next+1) (Av TT 131 36 0 tm .exhausted none h2.next)):=J.put O _;have Z:(h4.put (h2.next+1) (Av TT 131 36 0 tm .exhausted none h2.next)).get b2=some (.cells [.bool false] 4):=by rw[Af _];exact c2
  have x5:Ext h0 (h4.put (h2.next+1) (Av TT 131 36 0 tm .exhausted none h2.next)):=x4.Aq (.inr (by omega)) O _;have d5:(h4.put (h2.next+1) (Av TT 131 36 0 tm .exhausted none h2.next)).get h2.next=some (.deferred true):=by rw[Af _];exact kd
  generalize h4.put (h2.next+1) (Av TT 131 36 0 tm .exhausted none h2.next)=h5 at o Z x5 d5⊢;have l6:=o _ _ Z;refine Ok.st1 Z rfl rfl (by show 0<1;decide) ?_;have C:HB (h5.put b2 (.cells ([EV.bool false].set 0 (.bool true)) 4)):=o.put l6 _;refine Ok.unwind (cB.2 ⟨by simp,dG⟩) (fun d hd=>by rw[aM]at hd;subst hd;rw[Af _ (cP ne)];exact d5) C fun X A _=>?_
  have Y:X.get b2=some (.cells [.bool true] 4):=Ar.at A C (Ae _ _ _) (by rw[aM];exact cP ne);rw[Aiw Y];exact .ret ⟨rfl,(x5.Aq (.inr l2) l6 _).then A fun i U a=>by rw[aM]at U;omega,A.hb C⟩
end
end
theorem Abe {l:Int}(h:Aa):Rt K (.int .i64 v) (.int .i64 l) h=some (.bool (decide (1<=v)&&decide (v<=l)),h):=Ayv h
theorem Bgd {a:Aa}(f1:a.get b2=some (.cells [.bool false] 4))(w1:Ext h0 a)(f:HB a)(k:h0.next<=b2):Ok (stE 1 (.ptr b2 0) (.bool false) a fun h=>Fp [] h fun h=>It TT [.c (.ptr b2 0) 4] h) fun v h'=>v=.bool false/\Ext h0 h'/\HB h':=by
 have l:=f _ _ f1;refine Ok.st1 f1 rfl rfl (by show 0<1;decide) ?_;show Ok (It TT [.c (.ptr b2 0) 4] (a.put b2 (.cells [.bool false] 4))) _;rw[Aiw (b:=false) (Ae _ _ _)];exact .ret ⟨rfl,w1.Aq (.inr k) l _,f.put l _⟩
section
variable (H:Bv disp)
include H
theorem Ap7(hd:5<=d)(o:1000<K){ll:Nat}{es:List Me}(s:Sm g)(m:Rl h b ml ll g es)(hb:HB h)(x y z:Int):
 Ok (Ag TT disp K d false 131 [.agg [I x,I y,I z,.ptr b 0]] h) fun v h'=>v=.bool (snR x y z es)/\Ext h h'/\HB h':=by
 obtain⟨e,rfl⟩:∃k,d=k+1:=⟨d-1,by omega⟩;rw[Aph H (by omega)];simp only[Ald,Ab];have w1:Ext h ((h.new (.cells [I x,I y,I z,.ptr b 0] 160)).new (.cells [.bool false] 4)):=(Ar.new _ _).Df _;have a:((h.new (.cells [I x,I y,I z,.ptr b 0] 160)).new (.cells [.bool false] 4)).get h.next=some (.cells [I x,I y,I z,.ptr b 0] 160):=by rw[Aw _ (aL _)];exact Ad _ _
 have f1:((h.new (.cells [I x,I y,I z,.ptr b 0] 160)).new (.cells [.bool false] 4)).get (h.next+1)=some (.cells [.bool false] 4):=Ad _ _;have p:((h.new (.cells [I x,I y,I z,.ptr b 0] 160)).new (.cells [.bool false] 4)).next=h.next+2:=rfl
 rw[show(h.new (Dt.cells [I x,I y,I z,EV.ptr b 0] 160)).next=h.next+1 from rfl];generalize (h.new (.cells [I x,I y,I z,.ptr b 0] 160)).new (.cells [.bool false] 4)=u at w1 a f1 p⊢;have f:=w1.hb hb;have no:=Bgd (h0:=h) f1 w1 f (Nat.le_succ _);have q:Fa (.tuple []) false=false/\Fa (.tuple []) true=false:=⟨rfl,rfl⟩;unfold snR;rw[Al a rfl (v:=.ptr b 0) rfl,show ∀k:EV->R,Kk Al0 (bin TT .eql 43) (.ptr b 0) .Ga k=k (.bool false)from fun k=>by kernel_rfl];simp only[Ab,Ac];rw[Al a rfl (v:=I x) rfl]
 try simp only[I]
 rw[Abe,As];cases(decide (1<=x)&&decide (x<=281474976710655))with
 | false=>
  simp only[Ab,Ac,Pf,Lj,Iy,av];exact no
 | true=>
 simp only[Ab,Ac,Pf,bA];rw[Al a rfl (v:=I y) rfl]
 try simp only[I]
 rw[Abe,As];cases(decide (1<=y)&&decide (y<=4294967295))with
 | false=>
  simp only[Ab,Ac,Lj,Iy,av];exact no
 | true=>
 simp only[Ab,Ac,Lj,bA];rw[Al a rfl (v:=I z) rfl]
 try simp only[I]
 rw[Abe,As];cases(decide (1<=z)&&decide (z<=281474976710655))with
 | false=>
  simp only[Ab,Ac,Iy,av];exact no
 | true=>
 simp only[Ab,Ac,Iy,bA];have m1:=m.frame (w1.get _ (hb _ _ m.map) id) (w1.get _ (hb _ _ m.row) id) (w1.get _ (hb _ _ m.live) id);exact Ax7 H (by omega) o w1 s m1 f (aE _) (Nat.le_succ _) (hb _ _ m.row) a f1 (by simp only[Ih,reduceIte,Nat.reduceEqDiff]) (by simp only[Ih,reduceIte,Nat.reduceEqDiff])
end
end Go.Ev
