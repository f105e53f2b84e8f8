import Derived.Test.YtadnemjjlacolaaGreatYa
set_option linter.all false
namespace Go.Ev
open Go.Proofs
set_option maxRecDepth 100000
variable {h h' h0 h1:Ab}{K P b d e i j m n q t ar b2 l0 ml sz zq:Nat}{g:Gm}{xs:List EV}{kk:Ab->R}{Q:EV->Ab->Prop}{x y zn:Int}{D:Dv}{F G T:Nat->Prop}{k:EV->Ab->R}{Br cur:Nat->Int}{bl out:List Nat}{v:EV}{tm:Ba}{S':Mi}{mR:EV->EV->EV->Ab->R}{Stop:Ab->Prop}{ex:Nat->Ab->List Nat->R}{disp:Nat->Option FT}
instance:DecidableEq Me:=fun a b=>by
 cases a;cases b;simp only[Me.mk.injEq];exact inferInstance
def Me.nil(s:Int):Me:=⟨s,0,0,0,0,0⟩
def meR(g:Gm)(x:Me):Bool:=if x.state=0\/x.state=2 then decide (x=Me.nil x.state)else if x.state=1 then meB g x else false
def Vj(z:Int)(x:Me):Int:=if x.state=1/\(x.Al=z\/x.Bf=z)then 1 else 0
def Js(es:List Me)(z:Int):Int:=(es.map (Vj z)).foldr (· + ·) 0
theorem Pv(x:Me)(es:List Me)(z:Int):Js (x::es) z=Vj z x+Js es z:=rfl
theorem wg(z:Int)(x:Me):0<=Vj z x/\Vj z x<=1:=by unfold Vj;split<;>omega
theorem pJ(z:Int):∀es:List Me,0<=Js es z/\Js es z<=es.length
 | []=>⟨cO _,cO _⟩
 | x::es=>by
  have:=pJ z es;have:=wg z x;rw[Pv,bG];omega
theorem AL(z:Int)(y:Me):∀(es:List Me) (j:Nat) (hj:j<es.length),Js (es.set j y) z=Js es z-Vj z es[j]+Vj z y
 | x::es,0,_=>by
  rw[List.set_cons_zero,Pv,Pv];show Vj z y+Js es z=Vj z x+Js es z-Vj z x+Vj z y;omega
 | x::es,j+1,hj=>by
  have a:j<es.length:=by simpa using hj
  rw[List.set_cons_succ,Pv,Pv,AL z y es j a];show _=Vj z x+Js es z-Vj z es[j]+Vj z y;omega
structure Ob(h:Ab)(b ml ll:Nat)(g:Gm)(es:List Me):Prop where
 map:h.get b=some (.cells (gL g++[.slice ml 0 g.B.toNat g.B.toNat false,.slice ll 0 (g.D*g.Z).toNat (g.D*g.Z).toNat false]) 115)
 row:h.get ml=some (.cells (es.map Me.cells).flatten 47)
 live:h.get ll=some (.cells ((List.range (g.D*g.Z).toNat).map fun(z:Nat)=>I (Js es z)) 3)
 len:es.length=g.B.toNat
 ok:∀x∈es,meR g x=true
theorem Ob.frame{ll:Nat}{es:List Me}(m:Ob h b ml ll g es)(e1:h'.get b=h.get b)(e2:h'.get ml=h.get ml)(e3:h'.get ll=h.get ll):Ob h' b ml ll g es:=⟨by rw[e1];exact m.map,by rw[e2];exact m.row,by rw[e3];exact m.live,m.len,m.ok⟩
theorem Ob.ext{ll:Nat}{es:List Me}(m:Ob h b ml ll g es)(e:∀i o,h.get i=some o->h'.get i=some o):Ob h' b ml ll g es:=⟨e _ _ m.map,e _ _ m.row,e _ _ m.live,m.len,m.ok⟩
theorem XR:∀(l:List (List EV)) (j:Nat) (x:List EV),(∀x∈l,x.length=n)->l[j]? = some x->Og l.flatten (j*n) n=some x:=by
 have len:∀l:List (List EV),(∀x∈l,x.length=n)->l.flatten.length=l.length*n:=fun l=>by
  induction l with
  | nil=>intro _;simp
  | cons a r o=>intro h;rw[cJ,aF,h a (aW ..),o fun x f=>h x (aU _ f),bG,fR];omega
 intro l j x p f;have hj:=(aY.1 f).1;rw[Fx (by rw[len l p];have:=Nat.mul_le_mul_right n (show j+1<=l.length from hj);rw[fR]at this;exact this)];congr 1;induction l generalizing j with
 | nil=>cases f
 | cons a r o=>
  have u:=p a (aW ..);cases j with
  | zero=>
   rw[bK]at f;cases f;rw[gK,dF,cJ,<-u,fN]
  | succ j=>
   rw[br]at f;rw[cJ,fR,show j*n+n=a.length+j*n by omega,<-cX,gU];exact o j (fun x f=>p x (aU _ f)) f (aY.1 f).1
theorem tA(es:List Me)(hj:j<es.length):Og (es.map Me.cells).flatten (j*6) 6=some es[j].cells:=
 XR (n:=6) (es.map Me.cells) j es[j].cells (fun y a=>by obtain⟨z,_,rfl⟩:=cW.1 a;rfl) (by rw[bD,aD hj];rfl)
def Xj(es:List Me)(j:Int):Me × Int:=if 0<=j/\j<es.length then((es[j.toNat]?).getD (Me.nil 0),0)else(Me.nil 0,13)
theorem Ok.AM{z:List EV}(f:h.get i=some (.cells z t))(o:z.length=n)(a:xs.length=n)(p:Ok (kk (h.put i (.cells xs t))) Q):Ok (f_ n (.ptr i 0) (.agg xs) h kk) Q:=
 Ok.st xs f rfl (by show Ga xs=n;rw[Bh,a]) (Bn (by show z.length=xs.length;rw[a,o])) p
theorem pK{ll:Nat}{es:List Me}(s:Sm g)(m:Ob h b ml ll g es)(hb:HB h)(j:Int):Ok (Lf K (.ptr b 0) (I j) h) fun v h'=>v=.tuple [.agg (Xj es j).1.cells,I (Xj es j).2]/\Ext h h':=by
 have:=s.b0;have:=s.b1;simp only[Lf,I,Aa,Ac];rw[show[EV.int .i64 0,.int .i64 0,.int .i64 0,.int .i64 0,.int .i64 0,.int .i64 0]=(Me.nil 0).cells from rfl];obtain⟨h1,J,a,p,_⟩:=nW h (.cells (Me.nil 0).cells 47);rw[J];have f:=a.hb hb;have u:=a.at hb m.map;have O:=a.at hb m.row;have U:=f _ _ p;have st:∀(x:Me) (e:Int),Ok (f_ 6 (.ptr h.next 0) (.agg x.cells) h1 fun o=>Jk TT [.c (.ptr h.next 0) 47,.v (.int .i64 e)] o) fun v h'=>v=.tuple [.agg x.cells,I e]/\Ext h h':=by
  intro x e;refine Ok.AM p rfl rfl ?_;rw[Ej (Ae _ _ _) kQ.1 kQ.2 rfl];exact .ret ⟨rfl,a.Ar (.inr (aE _)) U _⟩
 unfold Xj;by_cases c0:j<0
 ·have V:Er (.tuple []) false=false/\Er (.tuple []) true=false:=⟨rfl,rfl⟩
  simp only[c0,aC,Aa,Ac,wj];rw[Ax (l:=(Me.nil 0).cells) rfl,aG (by omega)];exact st _ 13
 simp only[c0,aA,Aa,Ac];rw[Ai u rfl (v:=.slice ml 0 g.B.toNat g.B.toNat false) rfl];rw[show ∀k:EV->R,Hg (.slice ml 0 g.B.toNat g.B.toNat false) k=k (I g.B.toNat)from fun _=>rfl];simp only[I,Ac,Aa,wj];have hlen:=m.len;by_cases W:j<g.B
 ·obtain⟨n,rfl⟩:=bA (show 0<=j by omega)
  have E:n<es.length:=by omega
  have:decide ((n:Int)≥(g.B.toNat:Int))=false:=by simp;omega
  simp only[this,Aa,AN];rw[Ai u rfl (v:=.slice ml 0 g.B.toNat g.B.toNat false) rfl,Mw (by omega),bM,Cn O rfl (tA es E),aI (by omega)];rw[show(es[(n:Int).toNat]?).getD (Me.nil 0)=es[n] by rw[bF,aD E];rfl];exact st _ 0
 ·have:decide ((j:Int)≥(g.B.toNat:Int))=true:=by simp;omega
  simp only[this,Aa];rw[Ax (l:=(Me.nil 0).cells) rfl,aG (by omega)];exact st _ 13
def Ze(g:Gm)(es:List Me)(z:Int):Int:=if 0<=z/\z<g.D*g.Z then Js es z else 0
theorem wk(n:Nat)(f:Int->Int)(hj:j<n:=by omega):((List.range n).map fun(z:Nat)=>I (f z))[j]? = some (I (f j)):=by
 rw[bD,cP hj];rfl
theorem wm{ll:Nat}{es:List Me}(m:Ob h b ml ll g es)(z:Int):Qw K (.ptr b 0) (I z) h=some (I (Ze g es z),h):=by
 simp only[Qw,I,Aa,Ac];unfold Ze;by_cases c0:z<0
 ·simp only[c0,aC,Aa,Ac,Z9]
  rw[aG (by omega)]
 simp only[c0,aA,Aa,Ac];rw[Ai m.map rfl (v:=.slice ll 0 (g.D*g.Z).toNat (g.D*g.Z).toNat false) rfl];rw[show ∀k:EV->R,Hg (.slice ll 0 (g.D*g.Z).toNat (g.D*g.Z).toNat false) k=k (I (g.D*g.Z).toNat)from fun _=>rfl];simp only[I,Ac,Aa,Z9];by_cases a:z<g.D*g.Z
 ·obtain⟨n,rfl⟩:=bA (show 0<=z by omega)
  have:decide ((n:Int)≥((g.D*g.Z).toNat:Int))=false:=by simp;omega
  simp only[this,Aa,AO];rw[Ai m.map rfl (v:=.slice ll 0 (g.D*g.Z).toNat (g.D*g.Z).toNat false) rfl,Mw (by omega),bM,bk,Ai m.live rfl (wk (g.D*g.Z).toNat (Js es) (j:=n)),aI (by omega)]
 ·have:decide ((z:Int)≥((g.D*g.Z).toNat:Int))=true:=by simp;omega
  simp only[this,Aa];rw[aG (by omega)]
theorem AP:∀(l l':List Int),l.length=l'.length->E8 (l.map I) (l'.map I)=some (decide (l=l'))
 | [],[],_=>rfl
 | a::l,b::l',h=>by
  have f:=AP l l' (by simpa using h);rw[dQ,dQ];unfold E8;rw[qV];by_cases h1:a=b
  ·subst h1
   rw[aM rfl];simp only[f,List.cons.injEq,hH]
  ·rw[aJ h1]
   simp only[f];rw[aJ fun y=>h1 (List.cons.inj y).1]
def Me.row(x:Me):List Int:=[x.state,x.Al,x.Bf,x.off,x.seq,x.sum]
theorem Me.XS {x y:Me}:x.row=y.row↔x=y:=by
 cases x;cases y;simp[Me.row]
theorem XT(x y:Me)(k:EV->R):J5 iW (bin TT .eql 47) (.agg x.cells) (.agg y.cells) k=k (.bool (decide (x=y))):=by
 have he:TT.eqs 47=some [0,0,0,0,0,0]:=by kernel_rfl
 have h1:jD TT 47 (.agg x.cells) (.agg y.cells)=some (decide (x=y)):=by
  show(match TT.eqs 47 with|some sh=>Bb (shaped sh x.cells) (E8 x.cells y.cells) none|none=>none)=_;rw[he];simp only;rw[show shaped [0,0,0,0,0,0] x.cells=true from rfl,Ak,show x.cells=x.row.map I from rfl,show y.cells=y.row.map I from rfl,AP x.row y.row rfl];congr 1;rw[eO];exact Me.XS
 show oB k (match jD TT 47 (.agg x.cells) (.agg y.cells)with|some b=>some (EV.bool b)|none=>none)=_;rw[h1];rfl
theorem XU{x:Me}(hb:HB h)(o:x.state=1->Rng x.Al/\Rng x.Bf):Ok (Jl K (.agg x.cells) (gV g) h) fun v h'=>v=.bool (meR g x)/\Ext h h':=by
 unfold meR;by_cases s1:x.state=1
 ·rw[aG (by omega),aI s1]
  exact AQ hb s1 (o s1).1 (o s1).2
 ·simp only[Jl,gV,Aa]
  have f:Ext h ((h.new (.cells x.cells 47)).new (.cells (gL g) 23)):=(Av.new _ _).Da _;have a:((h.new (.cells x.cells 47)).new (.cells (gL g) 23)).get h.next=some (.cells x.cells 47):=by
   rw[Ay _ (aO _)];exact Ad _ _
  generalize (h.new (.cells x.cells 47)).new (.cells (gL g) 23)=h1 at f a⊢;rw[Ai a rfl (v:=I x.state) rfl];simp only[I,Ac];have eq:∀s,x.state=s->Ok (Ko K (.ptr h.next 0) (.ptr (h.next+1) 0) (.int .i64 s) (.bool true) h1) fun v h'=>v=.bool (decide (x=Me.nil x.state))/\Ext h h':=fun s hs=>by
   simp only[Ko,Aa];rw[Cy a rfl,Aj (n:=6) rfl]
   try simp only[Aa]
   rw[Ai a rfl (v:=I x.state) rfl]
   try simp only[Aa]
   rw[Ax (l:=(Me.nil x.state).cells) rfl,XT];exact .ret ⟨rfl,f⟩
  by_cases h0:x.state=0
  ·rw[aI (.inl h0)]
   simp only[h0,aC,Aa];have:=eq 0 h0;rw[h0]at this;exact this
  ·by_cases h2:x.state=2
   ·rw[aI (.inr h2)]
    simp only[h2,show ¬((2:Int)=0) by decide,aA,aC,Aa];have:=eq 2 h2;rw[h2]at this;exact this
   ·rw[aG (by omega),aG s1]
    simp only[h0,s1,h2,aA,Aa,Ko,Ac,AS];exact .ret ⟨rfl,f⟩
theorem XV {α:Type}(f:Nat->α)(n j:Nat)(v:α):((List.range n).map f).set j v=(List.range n).map fun z=>if z=j then v else f z:=by
 apply eA;intro i;rw[dR,bD,bD];by_cases hi:i<n
 ·rw[cP hi]
  by_cases hj:j=i
  ·subst hj;simp[hi]
  ·simp[hj,cY hj]
 ·rw[cC (by simpa using hi)]
  simp only[bh,fJ];split
  ·rw[aG (by omega)];rfl
  ·rfl
theorem XW{x:Me}(h:meR g x=true)(h1:x.state=1):(0<=x.Al/\x.Al<g.D*g.Z)/\(0<=x.Bf/\x.Bf<g.D*g.Z)/\¬x.Al=x.Bf:=by
 unfold meR at h;rw[aG (by omega),aI h1]at h;unfold meB Sr at h;simp only[aS,Ez,aV]at h;obtain⟨⟨_,⟨a,b⟩,_⟩,⟨_,⟨c,d⟩,_⟩,e,_⟩:=h;exact⟨⟨a,by omega⟩,⟨c,by omega⟩,fun y=>e (by rw[y])⟩
def pL(f:Int->Int)(z v:Int):Int->Int:=fun y=>if y=z then v else f y
theorem AU(n:Nat)(f:Int->Int)(j:Nat)(v:Int):((List.range n).map fun(z:Nat)=>I (f z)).set j (I v)=(List.range n).map fun(z:Nat)=>I (pL f j v z):=by
 rw[XV];congr 1;funext z;unfold pL;by_cases h:z=j
 ·rw[aI h,aI (by omega)]
 ·rw[aG h,aG (by omega)]
theorem AV{ll:Nat}(hn:g.D*g.Z=n)(ag:n<=512)(hm:h.get b=some (.cells (gL g++[.slice ml 0 g.B.toNat g.B.toNat false,.slice ll 0 n n false]) 115)){f:Int->Int}(hl:h.get ll=some (.cells ((List.range n).map fun(z:Nat)=>I (f z)) 3))(hb:HB h){x:Me}(hx:meR g x=true){by':Int}(ai:by'=1\/by' = -1)(bd:∀z,-1000<=f z/\f z<=1000):
 Ok (St K (.ptr b 0) (.agg x.cells) (I by') h) fun v h'=>v=.tuple []/\h'.get ll=some (.cells ((List.range n).map fun(z:Nat)=>I (f z+by'*Vj z x)) 3)/\Av (fun i=>i=ll) h h'/\HB h':=by
 simp only[St,Aa];obtain⟨h1,e_,U,g4,_⟩:=nW h (.cells x.cells 47);rw[e_];have o:=U.hb hb;have gm:=U.at hb hm;have V:=U.at hb hl;rw[Ai g4 rfl (v:=I x.state) rfl];simp only[I,Ac];by_cases s1:x.state=1
 ·obtain⟨⟨a0,a1⟩,⟨c0,c1⟩,ne⟩:=XW hx s1
  obtain⟨j,hj⟩:=bA a0;obtain⟨k,hk⟩:=bA c0;have lb:=o _ _ gm;have l4:=o _ _ g4;have p:=o _ _ V;have B1:=bd j;have B2:=bd k;simp only[s1,aC,Aa,As];rw[Hb lb,Ai gm rfl (v:=.slice ll 0 n n false) rfl]
  try simp only[Aa,As]
  rw[Hb l4,Ai g4 rfl (v:=I x.Al) rfl,hj]
  try simp only[I,Aa,As]
  rw[Mw (by omega),bM,bk,Hb p,Ai V rfl (wk n f (j:=j))];simp only[I,Ac,As];rw[Cl,Mw (by omega),bM,bk,G1];refine Ok.gT V rfl rfl (by simp;omega) ?_;have u:(h1.put ll (.cells (((List.range n).map fun(z:Nat)=>I (f z)).set j (I (f j+by'))) 3)).get ll=some (.cells ((List.range n).map fun(z:Nat)=>I (pL f j (f j+by') z)) 3):=by rw[Ae,AU]
  have W:Av (fun i=>i=ll) h1 (h1.put ll (.cells (((List.range n).map fun(z:Nat)=>I (f z)).set j (I (f j+by'))) 3)):=(Av.refl (S:=fun i=>i=ll) h1).Ar (.inl rfl) p _;have nb:b≠ll:=Az gm V (by intro y;injection y with _ y;cases y);have n4:h.next≠ll:=fun y=>by have:=hb _ _ hl;omega
  have J:=W.at o gm nb;have O:=W.at o g4 n4;rw[show EV.int .i64 (f j+by')=I (f j+by')from rfl];generalize h1.put ll (.cells (((List.range n).map fun(z:Nat)=>I (f z)).set j (I (f j+by'))) 3)=h2 at u W J O⊢;have E:=W.hb o;have lb:=E _ _ J;have l4:=E _ _ O;have p:=E _ _ u;have nk:¬(k:Int)=j:=by omega
  have fk:pL f j (f j+by') k=f k:=by unfold pL;rw[aG nk]
  try simp only[As]
  rw[Hb lb,Ai J rfl (v:=.slice ll 0 n n false) rfl]
  try simp only[Aa,As]
  rw[Hb l4,Ai O rfl (v:=I x.Bf) rfl,hk]
  try simp only[I,Aa,As]
  rw[Mw (by omega),bM,bk,Hb p,Ai u rfl (wk n _ (j:=k)),fk];simp only[I,Ac,As];rw[Cl,Mw (by omega),bM,bk,G1];refine Ok.gT u rfl rfl (by simp;omega) ?_;refine .ret ⟨rfl,?_,(U.to.trans W).Ar (.inl rfl) p _,E.put p _⟩;rw[Ae];have:(EV.int .i64 (f k+by'))=I (f k+by'):=rfl;rw[this,AU];congr 2;apply cm;intro z _;congr 1;unfold pL Vj;rw[s1,hj,hk];by_cases e1:(z:Int)=k
  ·rw[aI e1,aI ⟨rfl,.inr e1.symm⟩,e1];omega
  ·rw[aG e1]
   by_cases e2:(z:Int)=j
   ·rw[aI e2,aI ⟨rfl,.inl e2.symm⟩,e2];omega
   ·rw[aG e2,aG (fun y=>y.2.elim (fun a=>e2 a.symm) fun a=>e1 a.symm)];omega
 ·simp only[s1,aA,Aa]
  refine .ret ⟨rfl,?_,U.to,o⟩;rw[V];congr 2;apply cm;intro z _;unfold Vj;rw[aG (fun y=>s1 y.1),Int.mul_zero,Int.add_zero]
def kA(g:Gm)(es:List Me)(j:Int)(x:Me):List Me × Int:=if 0<=j/\j<es.length then(if meR g x=true then(es.set j.toNat x,0)else(es,10))else(es,13)
theorem tB{ll:Nat}{es:List Me}(s:Sm g)(m:Ob h b ml ll g es)(hb:HB h){x:Me}(hz:x.state=1->Rng x.Al/\Rng x.Bf)(j:Int):
 Ok (Le K (.ptr b 0) (I j) (.agg x.cells) h) fun v h'=>v=I (kA g es j x).2/\Ob h' b ml ll g (kA g es j x).1/\Av (fun i=>i=ml\/i=ll) h h'/\HB h':=by
 have:=s.b0;have:=s.b1;have:=s.d0;have:=s.d1;have:=s.z0;have:=s.z1;obtain⟨m0,m1⟩:=Q6 (a:=g.D) (b:=g.Z) (A:=8) (B:=64);simp only[Le,Aa];obtain⟨h1,e_,x1,g5,_⟩:=nW h (.cells x.cells 47);rw[e_];have V:=x1.hb hb;have M1:=m.ext fun i o q=>x1.at hb q
 refine(pK (K:=K) s M1 V j).Am ?_;rintro _ h2 ⟨rfl,x2⟩;have ae:=x2.hb V;simp only[Aa];refine Ok.AM (Ad _ _) rfl rfl ?_;obtain⟨h3,e_,x3,g7,_⟩:=nP h2 (.cells [EV.int .i64 0,.int .i64 0,.int .i64 0,.int .i64 0,.int .i64 0,.int .i64 0] 47) (.cells (Xj es j).1.cells 47);rw[e_];have u:=x3.hb ae;have W:Ext h h3:=(x1.trans x2).trans x3;have M3:=m.ext fun i o q=>W.at hb q
 have aa:=x3.at ae (x2.at V g5);unfold kA;have hlen:=m.len;by_cases hj:0<=j/\j<es.length
 ·obtain⟨k,rfl⟩:=bA hj.1
  have hk:k<es.length:=by omega
  have eg:Xj es (k:Int)=(es[k],0):=by
   unfold Xj;rw[aI hj,bF,aD hk];rfl
  rw[eg]at g7⊢;rw[aI hj];simp only[I,Ac,aB,aA,Aa,As];have l5:=u _ _ aa;have lb:=u _ _ M3.map;rw[Hb l5,Cy aa rfl,Aj (n:=6) rfl]
  try simp only[Aa,As]
  rw[Hb lb,Cn M3.map rfl (show Og (gL g++[.slice ml 0 g.B.toNat g.B.toNat false,.slice ll 0 (g.D*g.Z).toNat (g.D*g.Z).toNat false]) 0 6=some (gL g)from rfl)]
  try simp only[Aa,As]
  rw[show EV.agg (gL g)=gV g from rfl];refine Ok.bE (XU (K:=K) (g:=g) (x:=x) (C8 u) hz) (fun _ _ p=>p.2) ?_;rintro _ b8 h4 ⟨rfl,_⟩ _ x4;have J:=x4.hb u;have ab:Ext h h4:=W.trans x4;have O:=m.ext fun i o q=>ab.at hb q
  by_cases hr:meR g x=true
  ·rw[aI hr,hr]
   simp only[Aa,AW];have a3:=x4.at u g7;have a4:=x4.at u aa;rw[Cy a3 rfl,Aj (n:=6) rfl]
   try simp only[Aa]
   have hn:g.D*g.Z=((g.D*g.Z).toNat:Int):=by omega
   have bd:∀z,-1000<=Js es z/\Js es z<=1000:=fun z=>by have:=pJ z es;omega
   refine(AV (K:=K) (ml:=ml) hn (by omega) O.map O.live J (x:=es[k]) (m.ok _ (bH hk)) (by':=-1) (.inr rfl) bd).Am ?_;rintro _ h5 ⟨rfl,a5,c5,U⟩;have nb:b≠ll:=Az O.map O.live (by intro y;injection y with _ y;cases y);have nm:ml≠ll:=Az O.row O.live (by intro y;injection y with _ y;cases y);have a6:b≠ml:=Az O.map O.row (by intro y;injection y with _ y;cases y);have af:h.next≠ll:=fun y=>by have:=hb _ _ m.live;omega
   have ca:h.next≠ml:=fun y=>by have:=hb _ _ m.row;omega
   have ag:=c5.at J O.map nb;have a7:=c5.at J O.row nm;have ah:=c5.at J a4 af;rw[Cy ah rfl,Aj (n:=6) rfl]
   try simp only[Aa]
   refine(AV (K:=K) (ml:=ml) hn (by omega) ag a5 U (x:=x) hr (f:=fun z=>Js es z + -1*Vj z es[k]) (by':=1) (.inl rfl) (fun z=>by
    show -1000<=Js es z + -1*Vj z es[k]/\Js es z + -1*Vj z es[k]<=1000;have:=pJ z es;have:=wg z es[k];omega)).Am ?_
   rintro _ h6 ⟨rfl,a9,c6,E⟩;have ad:=c6.at U ag nb;have ai:=c6.at U a7 nm;have aj:=c6.at U ah af;have bb:=E _ _ ad;have bf:=E _ _ aj;have bj:=E _ _ ai
   try simp only[As]
   rw[Hb bb,Ai ad rfl (v:=.slice ml 0 g.B.toNat g.B.toNat false) rfl]
   try simp only[Aa,As]
   rw[Hb bf,Cy aj rfl,Aj (n:=6) rfl]
   try simp only[Aa,As]
   rw[Mw (by omega),bM,G1];have fs:Mv (es.map Me.cells).flatten (k*6) x.cells=some ((es.set k x).map Me.cells).flatten:=by
    rw[AX (n:=6) (fun y hy=>by obtain⟨z,_,rfl⟩:=cW.1 hy;rfl) (by rw[bh];exact hk) rfl,List.map_set]
   refine Ok.st _ ai rfl rfl fs ?_;have c7:Av (fun i=>i=ml) h6 (h6.put ml (.cells ((es.set k x).map Me.cells).flatten 47)):=(Av.refl (S:=fun i=>i=ml) h6).Ar (.inl rfl) bj _;have bo:=c7.at E ad a6;have bp:=c7.at E a9 (cY nm);refine .ret ⟨rfl,⟨bo,Ae _ _ _,?_,by rw[bP];exact hlen,fun y hy=>?_⟩,?_,c7.hb E⟩
   ·rw[bp]
    congr 2;apply cm;intro z _;rw[bF,AL z x es k hk];congr 1;omega
   ·rcases dG hy with y'|rfl
    ·exact m.ok _ y'
    ·exact hr
   ·exact(Ext.to ab).trans (((c5.mono fun i e=>.inr e).trans (c6.mono fun i e=>.inr e)).trans (c7.mono fun i e=>.inl e))
  ·have bt:meR g x=false:=by cases h:meR g x<;>simp_all
   rw[aG hr,bt];simp only[Aa];exact .ret ⟨rfl,O,ab.to,J⟩
 ·have eg:Xj es j=(Me.nil 0,13):=by unfold Xj;rw[aG hj]
  rw[eg,aG hj];simp only[I,Ac,show ¬((13:Int)=0) by decide,aR,aC,Aa];exact .ret ⟨rfl,M3,W.to,u⟩
theorem XX{z:Nat}{size:Int}{Z:Zn}(a:Fg h z q size Z)(hb:HB h):
 Ok (G0 K (.ptr z 0) h) fun v h'=>v=I (Kn Z.st)/\Fg h' z q size (if Kn Z.st=0 then Zn.empty else Z)/\Av (fun i=>i=z) h h'/\HB h':=by
 obtain⟨s,g,r⟩:=a.Al;have lz:=hb _ _ g;simp only[G0,Xf a,Aa,I,Ac];by_cases f:Kn Z.st=0
 ·simp only[f,aB,aA,Aa,bJ,On]
  refine Ok.gT g rfl rfl (by show 0<5;decide) ?_;refine Ok.gT (Ae _ _ _) rfl rfl (by show 2<5;decide) ?_;refine Ok.gT (Ae _ _ _) rfl rfl (by show 3<5;decide) ?_;refine Ok.gT (Ae _ _ _) rfl rfl (by show 4<5;decide) ?_;refine .ret ⟨rfl,⟨⟨.Aq,Ae _ _ _,Cd.nil _ _ _ _⟩,fun x o=>by cases o⟩,((((Av.refl (S:=fun i=>i=z) h).Ar (.inl rfl) lz _).Ar (.inl rfl) lz _).Ar (.inl rfl) lz _).Ar (.inl rfl) lz _,(((hb.put lz _).put lz _).put lz _).put lz _⟩
 ·simp only[f,aR,aC,Aa,ak]
  exact .ret ⟨rfl,a,Av.refl _,hb⟩
noncomputable def Dv.reset(D:Dv)(i:Int):Dv × Int:=
 if D.Fi i≠0 then(D,D.Fi i)else
 (if Kn (D.zs i.toNat).st=0 then D.tick.set i.toNat Zn.empty else D.tick,Kn (D.zs i.toNat).st)
theorem Zn.Wf.empty {size:Nat}(h:0<size):Zn.empty.Wf size:=⟨fun x a=>(by cases a),by show 0<=4;omega,aE _,cZ _,fun _=>h⟩
theorem XY{V:Nat}(d:Hh h V D F)(hb:HB h)(hs:0<D.size)(i:Int):
 Ok (Re K (.ptr V 0) (I i) h) fun v h'=>v=I (D.reset i).2/\Hh h' V (D.reset i).1 (Bk F h h')/\Av F h h'/\HB h':=by
 simp only[Re,dr];refine(tC (K:=K) d hb i).Am ?_;rintro _ h2 ⟨rfl,d2,c2,p,n2⟩;unfold Dv.reset;by_cases f:D.Fi i=0
 ·rw[aG (by rw[f];exact fun y=>y rfl),f]
  have E:D.begin i=D.tick:=by unfold Dv.begin;rw[aI f]
  rw[E]at d2;obtain⟨j,rfl,hj⟩:=Dv.tD f;obtain⟨zl,z,q,a,b⟩:=d2.Ou;obtain⟨O,U⟩:=a.qW (j:=j) hj;simp only[I,Ac,aB,aA,Aa,AY,a.list,O,U];refine(XX (K:=K) (a.Al j hj) p).Am ?_;rintro _ h3 ⟨rfl,J,c3,u⟩
  try simp only[Aa]
  rw[show(j:Int).toNat=j from rfl];have J:Fg h3 (z j) (q j) D.size (if Kn (D.zs j).st=0 then Zn.empty else D.zs j):=J;by_cases W:Kn (D.zs j).st=0
  ·simp only[W,bJ]at J⊢
   obtain⟨d3,o⟩:=Hh.Al d2.wf a b d2.lt p hj (Zn.Wf.empty hs) J (c3.mono fun _=>.inl) u (fun y=>absurd rfl y);refine .ret ⟨by rw[show Kn (D.tick.zs j).st=Kn (D.zs j).st from rfl,W],d3.mono (fun i hi=>?_) (Bk.lt d.lt (c2.trans o).next),c2.trans o,u⟩;rcases hi with y|y
   ·exact .inl y
   ·exact .inr ⟨bQ c2.next y.1,y.2⟩
  ·simp only[W,ak]at J⊢
   obtain⟨d3,o⟩:=Hh.Al d2.wf a b d2.lt p hj (d2.wf.zs j hj) J (c3.mono fun _=>.inl) u (fun y=>.inr ⟨rfl,y⟩);have e:D.tick.set j (D.zs j)=D.tick:=by
    unfold Dv.set;have:Ik D.tick.zs j (D.zs j)=D.tick.zs:=by funext k;unfold Ik;split<;>simp_all [Dv.tick]
    rw[this]
   have d3:Hh h3 V (D.tick.set j (D.zs j)) (Bk F h2 h3):=d3;rw[e]at d3;refine .ret ⟨rfl,d3.mono (fun i hi=>?_) (Bk.lt d.lt (c2.trans o).next),c2.trans o,u⟩;rcases hi with y|y
   ·exact .inl y
   ·exact .inr ⟨bQ c2.next y.1,y.2⟩
 ·rw[aI f]
  have E:D.begin i=D:=by unfold Dv.begin;rw[aG f]
  rw[E]at d2;simp only[I,Ac,f,aR,aC,Aa];exact .ret ⟨rfl,d2.grow d.lt c2.next,c2,p⟩
noncomputable def Jo.reset(S:Jo)(i:Int):Jo × Int:=({ S.begin i with dv:=((S.begin i).dv.reset i).1 },((S.begin i).dv.reset i).2)
theorem XZ(H:Bv disp)(hK:1000<K)(hd:14<=d){D:Nat}{S:Jo}(f:ma disp K S)(s:F3 h D S G)(hb:HB h)(i:Int)(hs:0<(S.begin i).dv.size):
 Ok (Ag TT disp K d false 133 [.ptr D 0,I i] h) fun v h'=>v=I (S.reset i).2/\F3 h' D (S.reset i).1 (Bk G h h')/\Av G h h'/\HB h':=by
 obtain⟨e,rfl⟩:∃k,d=k+1:=⟨d-1,by omega⟩;rw[X' H (by omega)];simp only[AZ,dr];refine(tE (K:=K) H (by omega) f s hb i).Am ?_;rintro _ h2 ⟨s2,c2,o⟩;unfold Jo.reset;generalize S.begin i=T at s2 hs⊢;obtain⟨V,M,qc,qh,cs,U,ms,F,a⟩:=s2.Ou;simp only[Aa,Cw a.D4 rfl];refine(XY (K:=K) a.dev o hs i).Am ?_;rintro _ h3 ⟨rfl,d3,c3,p⟩;obtain⟨W,u⟩:=s2.put a o d3 c3;have O:=W.wq c2.next u.next s.lt
 have c4:=c2.grow u;simp only[I,Ac];by_cases he:(T.dv.reset i).2=0
 ·simp only[he,aC,Aa,Xl]
  have aa:(T.dv.reset i).1.size<=64:=d3.wf.size;refine(X_ (K:=K) i K 0 h3 (by show(T.dv.reset i).1.size-0<K;omega) O p).Am ?_;rintro _ h5 ⟨s5,E,J⟩;simp only[Uq,dr];refine .ret ⟨by rw[<-he],s5.mono (fun j hj=>Bk.le E.next hj) (Bk.lt s.lt (bQ c4.next E.next)),c4.grow E,J⟩
 ·simp only[he,aA,Aa,Uq]
  exact .ret ⟨rfl,O,c4,p⟩
theorem Ok.YA{s:DX}{call:Ab->R}{k:EV->Ab->DX->R}{P:EV->Ab->Prop}(hb:Abu b s=true)(E:Ok (call (Hs b s h)) P)(he:∀v h1,P v h1->Ext (Hs b s h) h1)
 (J:∀v h1 h2,P v h1->(∀i,h2.get i=if i∈loose b s.nw then h.get i else h1.get i)->h2.next=h1.next->Ext h h2->Ok (k v h2 (s.big i)) Q):Ok (Ev.Ld i b s h call k) Q:=by
 obtain⟨v,h1,e,p⟩:=E;have x:=he v h1 p;have hm:h.next<=h1.mw:=x.mw h.next (aE _) (aE _) fun _ y=>y.elim
 have u:∀j,(Hs b s h).get j=if j∈loose b s.nw then none else h.get j:=fun j=>by rw[jf];exact(wu _ _ _).trans (by rw[jf])
 have O:Ev.Ld i b s h call k=k v ⟨j_ h.t h1.t (loose b s.nw),h1.next,h.mw⟩ (s.big i):=by
  show Bb (Abu b s) (Ev.Am (call (Hs b s h)) fun v h'=>Mp i b s h h' fun s h=>k v h s) none=_;rw[hb,Ak,e];show Mp i b s h h1 (fun s h=>k v h s)=_;unfold Mp;rw[aQ hm,Ak]
 rw[O];have f:∀j,(⟨j_ h.t h1.t (loose b s.nw),h1.next,h.mw⟩:Ab).get j=if j∈loose b s.nw then h.get j else h1.get j:=fun j=>by
  rw[jf];exact(wv _ _ _ _).trans (by rw[jf,jf])
 refine J v h1 _ p f rfl ⟨fun j hj U=>?_,x.next,fun w w1 _ _=>w1,fun y q o a=>?_⟩
 ·rw[f]
  split
  ·rfl
  ·rename_i V
   rw[x.get j hj U,u,aG V]
 ·rw[f]at a
  split at a
  ·exact aN (y q o a) x.next
  ·exact x.hb (fun q o a=>by
    rw[u]at a;split at a
    ·cases a
    ·exact y q o a) q o a
theorem A' {z:List EV}(a:n<=65536)(h:Ab):Vl z e (I n) (I n) h=some (.slice h.next 0 n n false,h.new (.cells (rep z n) e)):=by
 show Bb (Nat.ble n n) (Bb (Nat.ble n 65536) _ none) none=_;rw[aQ (aE _),Ak,aQ a,Ak]
theorem A_:∀(Br new:List EV),new.length<=Br.length->Jr Br new=some (new++Br.drop new.length)
 | Br,[],_=>by cases Br<;>rfl
 | [],b::r,h=>by simp at h
 | a::Br,b::r,h=>by
  show(match Jr Br r with|some x=>some (b::x)|none=>none)=_;rw[A_ Br r (by simpa using h)];rfl
theorem YB{r:Nat}{op:Bool}{t:TypeId}{Br new:List EV}{y:EV}(g:h.get i=some (.cells Br t))(o:lenOf y=some n)(u:0<n)(hm:n<=m)(f:O9 h 1 n y=some new)(p:new.length=n)(E:Br.length=m):
 builtin TT .copy #[173,173] [.slice i 0 m r op,y] h=some (I n,h.put i (.cells (new++Br.drop n) t)):=by
 have hu:TT.Tv 173=some (.slice 5):=by kernel_rfl
 have hs:TT.size 5=some 1:=by kernel_rfl
 have hb:Nat.ble n m=true:=aQ hm;have h0:Nat.beq n 0=false:=by cases n with|zero=>omega|succ n=>rfl
 have hw:Ml h i 0 new=some (h.put i (.cells (new++Br.drop n) t)):=by
  unfold Ml;rw[g];simp only;have:F0 Br 0 new=Jr Br new:=by cases Br<;>rfl
  rw[this,A_ Br new (by omega),p]
 rw[tF]at f;have a:lenOf (.slice i 0 m r op)=some m:=rfl;unfold builtin;simp only[hu,hs,a,o,hb,Ak,h0,Bm,f,hw];rfl
structure wx(h:Ab)(P t:Nat)(out:List Nat)(S:Nat->Prop):Prop where
 Ou:∃s q,h.get P=some (.cells [s,.bool false] t)/\Cd h s q 5 1 out.length (Bj out)/\(0<out.length->P≠q/\S q)
 own:S P
theorem YC {w:Nat}{a:Nat}(O:a<9223372036854775808)(hw:w<=7)(U:out.length<=60000){S:Nat->Prop}(h0:Ab)(hS:∀i,h0.next<=i->S i):∀(m i:Nat) (h:Ab),w-i<m->i<=w->HB h->Av S h0 h->wx h P t (out++Pa i a) S ->
 Ok (I5 K m (.ptr P 0) (Nk .i64 (a/256^i)) (I w) (I i) h) fun _ h'=>wx h' P t (out++Pa w a) S/\Av S h0 h'/\HB h':=by
 intro m;induction m with
 | zero=>intro i h hm;omega
 | succ m E=>
  intro i h hm hi hb c p;obtain⟨s,q,g,r,l⟩:=p.Ou;simp only[I5,I,Ac,Aa];by_cases f:(i:Int)<w
  ·simp only[f,aC,Aa,wA,Cw g rfl]
   rw[wrap_u8];have hlen:(out++Pa i a).length=out.length+i:=by rw[aF,De]
   refine Md (z:=[.int .u8 0]) r hb rfl rfl rfl (by omega) (by omega) ?_;intro h2 J V c2;have o:=c2.at hb g fun y=>(l y.1).1 y.2
   have u:=(c2.hb hb) _ _ o;refine Ok.gT o rfl rfl (by show 0<2;decide) ?_;rw[qX];simp only[wB,I,Ac];rw[Cl,fO,<-fD];have c3:Av S h (h2.put P (.cells ([s,EV.bool false].set 0 (.slice (h.next+1) 0 ((out++Pa i a).length+1) ((out++Pa i a).length+1) true)) t)):=(c2.mono fun j hj=>hj.2▸(l hj.1).2).Ar (.inl p.own) u _;refine E (i+1) _ (by omega) (by omega) ((c2.hb hb).put u _) (c.trans c3) ?_;rw[wD,<-bY];have lt:=hb _ _ g;refine⟨⟨_,h.next+1,Ae _ _ _,?_,fun _=>⟨by omega,hS _ (by have:=c.next;omega)⟩⟩,p.own⟩;have e1:((out++Pa i a)++[a/256^i%256]).length=(out++Pa i a).length+1:=by rw[aF];rfl
   have e2:Bj ((out++Pa i a)++[a/256^i%256])=Bj (out++Pa i a)++EV.cells (Nk .u8 (a/256^i%256)):=by rw[qY];rfl
   rw[e1,e2];exact J.frame fun _=>Af _
  ·have:i=w:=by omega
   subst this;simp only[f,aA,Aa];exact .ret ⟨p,c,hb⟩
def iF(h:Ab)(P:Nat)(out:List Nat)(S:Nat->Prop):Prop:=wx h P 233 out S/\∀b∈out,b<256
theorem iF.chg{S:Nat->Prop}(p:iF h P out S)(hb:HB h)(c:Av T h h')(no:∀i,S i->i<h.next->¬T i):iF h' P out S:=by
 obtain⟨⟨⟨s,q,g,r,l⟩,o⟩,b⟩:=p;exact⟨⟨⟨s,q,c.at hb g (no _ o (hb _ _ g)),r.frame fun y=>c.get _ (hb _ _ (r.block y)) (no _ (l y).2 (hb _ _ (r.block y))),l⟩,o⟩,b⟩
theorem iF.mono{S:Nat->Prop}(p:iF h P out S)(s:∀i,S i->T i):iF h P out T:=by
 obtain⟨⟨⟨e,q,g,r,l⟩,o⟩,b⟩:=p;exact⟨⟨⟨e,q,g,r,fun y=>⟨(l y).1,s _ (l y).2⟩⟩,s _ o⟩,b⟩
def wE(S:Nat->Prop)(h:Ab):Nat->Prop:=fun i=>S i\/h.next<=i
theorem YD {w:Nat}{S:Nat->Prop}(hK:1000<K)(p:iF h P out S)(hb:HB h)(U:out.length<=1000)(h1:1<=w)(u:w<=7){v:Int}(v0:0<=v)(V:v<=9223372036854775807)(W:v<(256^w:Nat)):
 Ok (Em K (.ptr P 0) (.int .i64 w) (.int .i64 v) h) fun _ h'=>iF h' P (out++Pa w v.toNat) (wE S h)/\Av S h h'/\HB h':=by
 obtain⟨p,hu⟩:=p.mono (T:=wE S h) fun i=>.inl
 obtain⟨a,rfl⟩:=bA v0;have f:a<9223372036854775808:=by omega
 have E:=(Bd f h1 u).2 (by omega);simp only[Em,dr];have J:=wF (K:=K) (w:Int) h;simp only[I]at J;rw[J,aM ⟨by omega,by omega⟩];simp only[Aa,Ac];have wp:=BA (K:=K) f hK h;rw[show(EV.int .i64 (a:Int))=.int .i64 (Int.ofNat a)from rfl,wp,Au];simp only[Nk,Ac];rw[show decide ((w:Int)<Int.ofNat (kB a))=false from aJ (by show ¬(w:Int)<((kB a:Nat):Int);omega)];simp only[Aa,O4,Z6];have:=YC (K:=K) (P:=P) (t:=233) (w:=w) f u (out:=out) (by omega) (S:=wE S h) h (fun i=>.inr) K 0 h (by omega) (cZ _) hb (Av.refl _) (by simpa [Pa]using p);rw[Nat.pow_zero,Nat.div_one]at this;refine this.mono ?_;rintro _ h' ⟨O,c,o⟩;refine⟨⟨O,fun b hb=>?_⟩,⟨fun i hi hs=>c.get i hi fun y=>?_,c.next,fun w1 e1 e2 e3=>c.mw w1 e1 e2 fun i hi=>?_,c.hb⟩,o⟩
 ·rcases bR.1 hb with y|y
  ·exact hu b y
  ·exact Jb _ _ b y
 ·rcases y with y|y
  ·exact hs y
  ·omega
 ·rcases hi with hi|hi
  ·exact e3 i hi
  ·omega
theorem BB{S:Nat->Prop}(o:S h.next):iF (h.new (.cells [.Aq,.bool false] 233)) h.next [] S:=⟨⟨⟨.Aq,0,Ad _ _,Cd.nil _ _ _ _,fun y=>absurd y (bN _)⟩,o⟩,fun b hb=>by cases hb⟩
def iG(l:List Nat):List Nat:=l++List.replicate (44-l.length) 0
theorem wG {l:List Nat}(h:l.length<=44):(iG l).length=44:=by unfold iG;rw[aF,bV];omega
theorem wH {l:List Nat}(h:∀b∈l,b<256):∀b∈iG l,b<256:=fun b hb=>by
 rcases bR.1 hb with y|y
 ·exact h b y
 ·rw[bO y];decide
structure oq(v:EV)(l:List Nat):Prop where
 eq:v=.agg (Bj l)
 len:l.length=44
 u8:∀b∈l,b<256
theorem BC{S:Nat->Prop}(p:iF h P out S)(hb:HB h)(h0:0<out.length)(hn:out.length<=44):Ok (qZ K (.ptr P 0) h) fun v h'=>oq v (iG out)/\Ext h h'/\HB h':=by
 obtain⟨a,hu⟩:=p;simp only[qZ,Aa];rw[show(h.new (.cells (List.replicate 44 (EV.int .u8 0)) 165)).next=h.next+1 from rfl];have u:Ext h ((h.new (.cells (List.replicate 44 (EV.int .u8 0)) 165)).new (.cells (List.replicate 44 (EV.int .u8 0)) 165)):=(Av.new _ _).Da _;have V:((h.new (.cells (List.replicate 44 (EV.int .u8 0)) 165)).new (.cells (List.replicate 44 (EV.int .u8 0)) 165)).get h.next=some (.cells (List.replicate 44 (EV.int .u8 0)) 165):=by
  rw[Ay _ (aO _)];exact Ad _ _
 have E:((h.new (.cells (List.replicate 44 (EV.int .u8 0)) 165)).new (.cells (List.replicate 44 (EV.int .u8 0)) 165)).get (h.next+1)=some (.cells (List.replicate 44 (EV.int .u8 0)) 165):=Ad _ _;generalize (h.new (.cells (List.replicate 44 (EV.int .u8 0)) 165)).new (.cells (List.replicate 44 (EV.int .u8 0)) 165)=h1 at u V E⊢;have f:=u.hb hb;obtain⟨⟨s,q,g,r,l⟩,_⟩:=a;refine(BD (K:=K) (u.at hb g) (r.frame fun y=>u.get _ (hb _ _ (r.block y)) id) f (by omega)).Am ?_;rintro _ h2 ⟨y,q',rfl,ry,W,aa,lq⟩;have V:=W.at f V;have E:=W.at f E;simp only[Aa];rw[show ∀k:EV->R,Nq 44 1 (.ptr (h.next+1) 0) none none none k=k (.slice (h.next+1) 0 44 44 false)from fun k=>rfl];have J:=ry.bs (by omega);have ab:=YB (h:=h2) (i:=h.next+1) (n:=out.length) (m:=44) (r:=44) (op:=false) (t:=165) (Br:=List.replicate 44 (EV.int .u8 0)) E J.len h0 hn J.cells (by rw[Bg]) (by simp);rw[ab,Au];have l3:=aa _ _ E;have ee:Bj out++(List.replicate 44 (EV.int .u8 0)).drop out.length=Bj (iG out):=by
  unfold iG;rw[qY,List.drop_replicate];unfold Bj;rw[gO];rfl
 rw[ee];have o:=wG hn;have O:=wH hu;generalize iG out=l at o O⊢;have g5:(h2.put (h.next+1) (.cells (Bj l) 165)).get (h.next+1)=some (.cells (Bj l) 165):=Ae _ _ _;have g6:(h2.put (h.next+1) (.cells (Bj l) 165)).get h.next=some (.cells (List.replicate 44 (EV.int .u8 0)) 165):=by rw[Af _];exact V
 have ae:=u.trans W;have x5:=ae.Ar (i:=h.next+1) (.inr (by omega)) l3 (.cells (Bj l) 165);generalize h2.put (h.next+1) (.cells (Bj l) 165)=h5 at g5 g6 x5⊢;have U:=x5.hb hb;have ul:(Bj l).length=44:=by rw[Bg,o]
 rw[Cy g5 rfl,Aj ul];simp only[G2];have l6:=U _ _ g6;refine Ok.st (Bj l) g6 rfl (by show Ga (Bj l)=44;rw[Bh,ul]) (Bn (by show(List.replicate 44 (EV.int .u8 0)).length=(Bj l).length;rw[ul,bV])) ?_;rw[Qz (Ae _ _ _) pM.1 pM.2 ul];exact .ret ⟨⟨rfl,o,O⟩,x5.Ar (.inr (aE _)) l6 _,U.put l6 _⟩
theorem BE{z:List EV}{l:List Nat}(o:oq v l)(a:h.get i=some (.cells z 165))(p:z.length=44)(x:Ext h0 h)(hb:HB h)(hi:h0.next<=i):Ok (f_ 44 (.ptr i 0) v h fun h=>Jk TT [.c (.ptr i 0) 165] h) fun v h'=>oq v l/\Ext h0 h'/\HB h':=by
 obtain⟨rfl,f,hu⟩:=o;have ul:(Bj l).length=44:=by rw[Bg,f]
 have lt:=hb _ _ a;refine Ok.st (Bj l) a rfl (by show Ga (Bj l)=44;rw[Bh,ul]) (Bn (by show z.length=(Bj l).length;rw[ul,p])) ?_;rw[Qz (Ae _ _ _) pM.1 pM.2 ul];exact .ret ⟨⟨rfl,f,hu⟩,x.Ar (.inr hi) lt _,hb.put lt _⟩
theorem tG:∀(l:List (List EV)) (j:Nat) (x:List EV),(∀x∈l,x.length=n)->l[j]? = some x->Og l.flatten (j*n) n=some x:=by
 have len:∀l:List (List EV),(∀x∈l,x.length=n)->l.flatten.length=l.length*n:=fun l=>by
  induction l with
  | nil=>intro _;simp
  | cons a r o=>intro h;rw[cJ,aF,h a (aW ..),o fun x f=>h x (aU _ f),bG,fR];omega
 intro l j x p f;have hj:=(aY.1 f).1;rw[Fx (by rw[len l p];have:=Nat.mul_le_mul_right n (show j+1<=l.length from hj);rw[fR]at this;exact this)];congr 1;induction l generalizing j with
 | nil=>cases f
 | cons a r o=>
  have u:=p a (aW ..);cases j with
  | zero=>
   rw[bK]at f;cases f;rw[gK,dF,cJ,<-u,fN]
  | succ j=>
   rw[br]at f;rw[cJ,fR,show j*n+n=a.length+j*n by omega,<-cX,gU];exact o j (fun x f=>p x (aU _ f)) f (aY.1 f).1
theorem Ok.mS{z:List EV}(f:h.get i=some (.cells z t))(o:z.length=n)(a:xs.length=n)(p:Ok (kk (h.put i (.cells xs t))) Q):Ok (f_ n (.ptr i 0) (.agg xs) h kk) Q:=
 Ok.st xs f rfl (by show Ga xs=n;rw[Bh,a]) (Bn (by show z.length=xs.length;rw[a,o])) p
theorem iF.less{S:Nat->Prop}(p:iF h P out S)(hb:HB h)(t:∀i,S i->i<h.next->T i):iF h P out T:=by
 obtain⟨⟨⟨e,q,g,r,l⟩,o⟩,b⟩:=p;exact⟨⟨⟨e,q,g,r,fun y=>⟨(l y).1,t _ (l y).2 (hb _ _ (r.block y))⟩⟩,t _ o (hb _ _ g)⟩,b⟩
theorem R7 {w:Nat}{S:Nat->Prop}(hK:1000<K)(p:iF h P out S)(hb:HB h)(hS:∀i,h.next<=i->S i)(f:out.length<=1000)(h1:1<=w)(o:w<=7){v:Int}(v0:0<=v:=by omega)(u:v<=9223372036854775807:=by omega)(E:v<(256^w:Nat):=by omega):
 Ok (Em K (.ptr P 0) (.int .i64 w) (.int .i64 v) h) fun _ h'=>iF h' P (out++Pa w v.toNat) S/\Av S h h'/\HB h'/\∀i,h'.next<=i->S i:=
 (YD hK p hb f h1 o v0 u E).mono fun _ _ ⟨a,c,b⟩=>⟨a.mono fun i hi=>hi.elim id (hS i),c,b,fun i hi=>hS i (bQ c.next hi)⟩
theorem Jz{ll:Nat}{es:List Me}(m:Ob h b ml ll g es)(hb:HB h):Ok (Ek K (.ptr b 0) h) fun v h'=>v=gV g/\Ext h h'/\HB h':=by
 simp only[Ek,Aa];have a:Ext h (h.new (.cells [EV.int .i64 0,.int .i64 0,.int .i64 0,.int .i64 0,.int .i64 0,.int .i64 0] 23)):=Av.new _ _;have o:=a.hb hb;rw[Cy (a.at hb m.map) rfl,show Og (gL g++[.slice ml 0 g.B.toNat g.B.toNat false,.slice ll 0 (g.D*g.Z).toNat (g.D*g.Z).toNat false]) 0 6=some (gL g)from rfl];simp only[Aa];refine Ok.st (gL g) (Ad _ _) rfl rfl (Bn rfl) ?_;rw[Qz (Ae _ _ _) tH.1 tH.2 rfl];have f:=a.Ar (i:=h.next) (.inr (aE _)) (aO _) (.cells (gL g) 23);exact .ret ⟨rfl,f,f.hb hb⟩
theorem wI(s:Sm g){x:Me}(h:meR g x=true):(0<=x.state/\x.state<=2)/\(0<=x.Al/\x.Al<=511)/\(0<=x.Bf/\x.Bf<=511)/\(0<=x.off/\x.off<=63)/\(0<=x.seq/\x.seq<=281474976710655)/\(0<=x.sum/\x.sum<=4294967295):=by
 have:=s.d0;have:=s.d1;have:=s.z0;have:=s.z1;have:=s.s1;obtain⟨o,m1⟩:=Q6 (a:=g.D) (b:=g.Z) (A:=8) (B:=64);unfold meR at h;split at h
 ·rename_i h0
  rw[dH h];unfold Me.nil;refine⟨?_,?_,?_,?_,?_,?_⟩<;>simp only<;>omega
 ·split at h
  ·unfold meB Sr at h
   simp only[aS,Ez,aV]at h;obtain⟨⟨_,⟨a,b⟩,c,d⟩,⟨_,⟨e,f⟩,_⟩,_,i,j,k,l⟩:=h;refine⟨?_,?_,?_,?_,?_,?_⟩<;>omega
  ·cases h
theorem q6{es:List Me}(h:∀x∈es,meR g x=true)(j:Int):meR g (Xj es j).1=true:=by
 have n0:meR g (Me.nil 0)=true:=by unfold meR;rw[aI (.inl rfl)];exact aM rfl
 unfold Xj;split
 ·cases a:es[j.toNat]? with
  | none=>exact n0
  | some y=>exact h y (bc a)
 ·exact n0
def jE(x:Me):List Nat:=Pa 1 x.state.toNat++(Pa 2 x.Al.toNat++(Pa 2 x.Bf.toNat++(Pa 1 x.off.toNat++(Pa 6 x.seq.toNat++Pa 4 x.sum.toNat))))
theorem BF(x:Me):(jE x).length=16:=by unfold jE;simp only[aF,De]
theorem YE(sm:Sm g){x:Me}(hx:meR g x=true){S:Nat->Prop}(hK:1000<K)(p:iF h P out S)(hb:HB h)(hS:∀i,h.next<=i->S i)(hn:out.length<=900):
 Ok (tI K (.ptr P 0) (.agg x.cells) h) fun _ h'=>iF h' P (out++jE x) S/\Av S h h'/\HB h'/\∀i,h'.next<=i->S i:=by
 obtain⟨b1,b2,b3,b4,b5,b6⟩:=wI sm hx;simp only[tI,Aa];obtain⟨h1,e_,O,W,n1⟩:=nW h (.cells x.cells 47);rw[e_];have f:=O.hb hb;have t1:∀i,h1.next<=i->S i/\i≠h.next:=fun i hi=>⟨hS i (by omega),by omega⟩
 have p1:iF h1 P out (fun i=>S i/\i≠h.next):=(p.less hb (T:=fun i=>S i/\i≠h.next) fun i a b=>⟨a,by omega⟩).chg hb O fun _ _ _=>id
 rw[Ai W rfl (v:=I x.state) rfl];refine(R7 hK p1 f t1 (by omega) (w:=1) (by omega) (by omega) (v:=x.state)).Am ?_;rintro _ h2 ⟨p2,c2,o,t2⟩;have g2:=c2.at f W fun y=>y.2 rfl
 rw[Ai g2 rfl (v:=I x.Al) rfl];refine(R7 hK p2 o t2 (by simp only[aF,De];omega) (w:=2) (by omega) (by omega) (v:=x.Al)).Am ?_;rintro _ h3 ⟨p3,c3,u,t3⟩;have g3:=c3.at o g2 fun y=>y.2 rfl
 rw[Ai g3 rfl (v:=I x.Bf) rfl];refine(R7 hK p3 u t3 (by simp only[aF,De];omega) (w:=2) (by omega) (by omega) (v:=x.Bf)).Am ?_;rintro _ h4 ⟨p4,c4,E,t4⟩;have g4:=c4.at u g3 fun y=>y.2 rfl
 rw[Ai g4 rfl (v:=I x.off) rfl];refine(R7 hK p4 E t4 (by simp only[aF,De];omega) (w:=1) (by omega) (by omega) (v:=x.off)).Am ?_;rintro _ h5 ⟨p5,c5,J,t5⟩;have g5:=c5.at E g4 fun y=>y.2 rfl
 rw[Ai g5 rfl (v:=I x.seq) rfl];refine(R7 hK p5 J t5 (by simp only[aF,De];omega) (w:=6) (by omega) (by omega) (v:=x.seq)).Am ?_;rintro _ h6 ⟨p6,c6,U,t6⟩;have g6:=c6.at J g5 fun y=>y.2 rfl
 rw[Ai g6 rfl (v:=I x.sum) rfl];refine(R7 hK p6 U t6 (by simp only[aF,De];omega) (w:=4) (by omega) (by omega) (v:=x.sum)).Am ?_;rintro _ h7 ⟨p7,c7,V,t7⟩;have p8:iF h7 P (out++jE x) S:=by
  unfold jE;simp only[<-bY];exact p7.mono fun i hi=>hi.1
 exact .ret ⟨p8,(O.mono fun _=>False.elim).trans (((((c2.trans c3).trans c4).trans c5).trans c6).trans c7|>.mono fun i hi=>hi.1),V,fun i hi=>(t7 i hi).1⟩
def jN(g:Gm)(z:Int):List Nat:=Pa 6 z.toNat++(Pa 1 g.D.toNat++(Pa 1 g.Z.toNat++(Pa 1 g.S.toNat++(Pa 2 g.B.toNat++(Pa 1 g.P.toNat++Pa 1 g.O.toNat)))))
theorem wJ(g:Gm)(z:Int):(jN g z).length=13:=by unfold jN;simp only[aF,De]
theorem YF(hK:1000<K){ll:Nat}(s:Sm g){es:List Me}(m:Ob h b ml ll g es)(hb:HB h){x y:EV}{sq:Int}(q0:0<=sq)(q1:sq<=281474976710655):
 Ok (tJ K (.agg [x,y,I sq,.ptr b 0]) h) fun v h'=>oq v (iG (jN g sq))/\Ext h h'/\HB h':=by
 simp only[tJ,Aa];have x1:Ext h ((h.new (.cells [x,y,I sq,.ptr b 0] 160)).new (.cells (List.replicate 44 (.int .u8 0)) 165)):=(Av.new _ _).Da _;have g1:((h.new (.cells [x,y,I sq,.ptr b 0] 160)).new (.cells (List.replicate 44 (.int .u8 0)) 165)).get h.next=some (.cells [x,y,I sq,.ptr b 0] 160):=by rw[Ay _ (aO _)];exact Ad _ _
 have f1:((h.new (.cells [x,y,I sq,.ptr b 0] 160)).new (.cells (List.replicate 44 (.int .u8 0)) 165)).get (h.next+1)=some (.cells (List.replicate 44 (.int .u8 0)) 165):=Ad _ _;have n1:((h.new (.cells [x,y,I sq,.ptr b 0] 160)).new (.cells (List.replicate 44 (.int .u8 0)) 165)).next=h.next+2:=rfl
 generalize (h.new (.cells [x,y,I sq,.ptr b 0] 160)).new (.cells (List.replicate 44 (.int .u8 0)) 165)=h1 at x1 g1 f1 n1⊢;have ae:=x1.hb hb;rw[Ai g1 rfl (v:=.ptr b 0) rfl];refine(Jz (K:=K) (m.frame (x1.get _ (hb _ _ m.map) id) (x1.get _ (hb _ _ m.row) id) (x1.get _ (hb _ _ m.live) id)) ae).Am ?_;rintro _ h2 ⟨rfl,x2,af⟩;have g2:=x2.at ae g1;have f2:=x2.at ae f1;refine Ok.mS (xs:=gL g) (Ad _ _) rfl rfl ?_;rw[Ax (l:=[.Aq,.bool false]) rfl];simp only[Aa];obtain⟨h3,e_,x3,e3,n3⟩:=nP h2 (.cells [EV.int .i64 0,.int .i64 0,.int .i64 0,.int .i64 0,.int .i64 0,.int .i64 0] 23) (.cells (gL g) 23);rw[e_];have p:=x3.hb af;have x4:Ext h3 (h3.new (.cells [.Aq,.bool false] 233)):=Av.new _ _;have p4:iF (h3.new (.cells [.Aq,.bool false] 233)) h3.next [] (fun i=>h3.next<=i):=BB (aE _)
 have n4:(h3.new (.cells [.Aq,.bool false] 233)).next=h3.next+1:=rfl
 generalize h3.new (.cells [.Aq,.bool false] 233)=h4 at x4 p4 n4⊢;have u:=x4.hb p;have g4:=x4.at p (x3.at af g2);have f4:=x4.at p (x3.at af f2);have e4:=x4.at p e3;have l1:=x2.next
 have k1:¬h3.next<=h.next:=by omega
 have k2:¬h3.next<=h.next+1:=by omega
 have k3:¬h3.next<=h2.next:=by omega
 have:=s.d0;have:=s.d1;have:=s.z0;have:=s.z1;have:=s.s0;have:=s.s1;have:=s.b0;have:=s.b1;have:=s.p0;have:=s.p1;have:=s.o0;have:=s.o1;have t4:∀i,h4.next<=i->h3.next<=i:=fun i hi=>by omega
 rw[Ai g4 rfl (v:=I sq) rfl];refine(R7 hK p4 u t4 (by simp) (w:=6) (by omega) (by omega) (v:=sq)).Am ?_;rintro _ h5 ⟨p5,c5,E,t5⟩;have g5:=c5.at u g4 k1;have f5:=c5.at u f4 k2;have e5:=c5.at u e4 k3;rw[Ai e5 rfl (v:=I g.D) rfl];refine(R7 hK p5 E t5 (by simp only[aF,De,cV];omega) (w:=1) (by omega) (by omega) (v:=g.D)).Am ?_;rintro _ h6 ⟨p6,c6,J,t6⟩;have g6:=c6.at E g5 k1;have f6:=c6.at E f5 k2;have e6:=c6.at E e5 k3;rw[Ai e6 rfl (v:=I g.Z) rfl];refine(R7 hK p6 J t6 (by simp only[aF,De,cV];omega) (w:=1) (by omega) (by omega) (v:=g.Z)).Am ?_;rintro _ h7 ⟨p7,c7,U,t7⟩;have g7:=c7.at J g6 k1;have f7:=c7.at J f6 k2;have e7:=c7.at J e6 k3;rw[Ai e7 rfl (v:=I g.S) rfl];refine(R7 hK p7 U t7 (by simp only[aF,De,cV];omega) (w:=1) (by omega) (by omega) (v:=g.S)).Am ?_;rintro _ h8 ⟨p8,c8,V,t8⟩;have g8:=c8.at U g7 k1;have f8:=c8.at U f7 k2;have e8:=c8.at U e7 k3;rw[Ai e8 rfl (v:=I g.B) rfl];refine(R7 hK p8 V t8 (by simp only[aF,De,cV];omega) (w:=2) (by omega) (by omega) (v:=g.B)).Am ?_;rintro _ h9 ⟨p9,c9,W,t9⟩;have g9:=c9.at V g8 k1;have f9:=c9.at V f8 k2;have e9:=c9.at V e8 k3;rw[Ai e9 rfl (v:=I g.P) rfl];refine(R7 hK p9 W t9 (by simp only[aF,De,cV];omega) (w:=1) (by omega) (by omega) (v:=g.P)).Am ?_;rintro _ b6 ⟨a2,aa,f,t10⟩;have a3:=aa.at W g9 k1;have f10:=aa.at W f9 k2;have wK:=aa.at W e9 k3;rw[Ai wK rfl (v:=I g.O) rfl];refine(R7 hK a2 f t10 (by simp only[aF,De,cV];omega) (w:=1) (by omega) (by omega) (v:=g.O)).Am ?_;rintro _ a4 ⟨a5,o,ab,t11⟩;have b7:=o.at f a3 k1;have f11:=o.at f f10 k2;have YG:=o.at f wK k3;have a6:iF a4 h3.next (jN g sq) (fun i=>h3.next<=i):=by
  unfold jN;simp only[<-bY];exact a5
 refine(BC a6 ab (by rw[wJ];omega) (by rw[wJ];omega)).Am ?_;rintro v a7 ⟨hv,al,ao⟩;have x5:Ext h h4:=((x1.trans x2).trans x3).trans x4;have o:=((((((c5.trans c6).trans c7).trans c8).trans c9).trans aa).trans o);have x:Ext h a7:=(x5.then o fun i a b=>by have:=x1.next;omega).trans al;exact BE hv (al.at ab f11) (by simp) x ao (by show h.next<=h.next+1;omega)
def ju(es:List Me)(j:Int):Nat->List Nat
 | 0=>Pa 1 j.toNat
 | i+1=>ju es j i++jE (Xj es (2*(j-1)+i)).1
theorem q7(es:List Me)(j:Int):∀i,(ju es j i).length=1+16*i
 | 0=>De _ _
 | i+1=>by show(ju es j i++_).length=_;rw[aF,q7 es j i,BF];omega
theorem YH {es:List Me}(hK:1000<K){h4:Ab}{ll n3 r:Nat}(s:Sm g){l:List EV}(hl:l[3]? = some (.ptr b 0)){j:Int}(j0:1<=j)(j1:j<=255)(hx:∀h,Av (fun i=>n3<=i) h4 h->Ext h0 h)(hr:h0.next<=r)(k1:t<n3)(k2:r<n3)(k3:b<n3)(k4:ml<n3)(k5:ll<n3):∀(n i:Nat) (h:Ab),2-i<n->i<=2->HB h->(∀i,h.next<=i->n3<=i)->Av (fun i=>n3<=i) h4 h->iF h P (ju es j i) (fun i=>n3<=i)->Ob h b ml ll g es->h.get t=some (.cells l 160)->h.get r=some (.cells (List.replicate 44 (.int .u8 0)) 165) ->
 Ok (Xp K n (I j) (.ptr t 0) (.ptr r 0) (.ptr P 0) (I i) h) fun v h'=>oq v (iG (ju es j 2))/\Ext h0 h'/\HB h':=by
 intro n;induction n with
 | zero=>intro i h hn;omega
 | succ n ih=>
  intro i h hn hi hb ht c p m gt U;rw[Xp];simp only[I,Ac,Aa];by_cases ai:i<2
  ·have:decide ((i:Int)<2)=true:=by simp;omega
   simp only[this,Aa,BG];rw[Ai gt rfl hl];simp only[Ac];rw[show Dr .i64 (j-1)=j-1 from Cl,show Dr .i64 (2*(j-1))=2*(j-1)from Cl,show Dr .i64 (2*(j-1)+i)=2*(j-1)+i from Cl];refine(pK (K:=K) s m hb (2*(j-1)+i)).Am ?_;rintro _ h2 ⟨rfl,V⟩;have E:=V.hb hb;have hR:=q6 m.ok (2*(j-1)+(i:Int));have W:ju es j (i+1)=ju es j i++jE (Xj es (2*(j-1)+(i:Int))).1:=rfl;generalize (Xj es (2*(j-1)+(i:Int))).1=x at hR W⊢;simp only[Aa];refine Ok.mk rfl rfl fun h3 x3 e3 _=>?_
   have J:=x3.hb E;rw[Cn e3 rfl (Aj (n:=6) rfl)];have f:=V.trans x3;refine(YE s hR hK (p.chg hb f fun _ _ _=>id) J (fun i hi=>ht i (bQ f.next hi)) (by rw[q7];omega)).Am ?_;rintro _ h5 ⟨p5,c5,O,t5⟩;have a:Av (fun i=>n3<=i) h h5:=(Ext.to f).trans c5;simp only[BH,I,Ac];rw[Cl,show((i:Nat):Int)+1=((i+1:Nat):Int) by omega];refine ih (i+1) h5 (by omega) (by omega) O t5 (c.trans a) ?_ ?_ ?_ ?_
   ·rw[W];exact p5
   ·exact m.frame (a.get _ (hb _ _ m.map) (by omega)) (a.get _ (hb _ _ m.row) (by omega)) (a.get _ (hb _ _ m.live) (by omega))
   ·exact a.at hb gt (by omega)
   ·exact a.at hb U (by omega)
  ·have:decide ((i:Int)<2)=false:=by simp;omega
   have:i=2:=by omega
   subst this;simp only[this,Aa,BI];refine(BC p hb (by rw[q7];omega) (by rw[q7];omega)).Am ?_;rintro v ao ⟨hv,o,u⟩;exact BE hv (o.at hb U) (by simp) ((hx h c).trans o) u hr
theorem YI(hK:1000<K){ll:Nat}(s:Sm g){es:List Me}(m:Ob h b ml ll g es)(hb:HB h){x y z:EV}{j:Int}(j0:1<=j)(j1:j<=255):
 Ok (tK K (.agg [x,y,z,.ptr b 0]) (I j) h) fun v h'=>oq v (iG (ju es j 2))/\Ext h h'/\HB h':=by
 simp only[tK,Aa];rw[Ax (l:=[.Aq,.bool false]) rfl];simp only[Aa];have O:Ext h ((h.new (.cells [x,y,z,.ptr b 0] 160)).new (.cells (List.replicate 44 (.int .u8 0)) 165)):=(Av.new _ _).Da _;have V:((h.new (.cells [x,y,z,.ptr b 0] 160)).new (.cells (List.replicate 44 (.int .u8 0)) 165)).get h.next=some (.cells [x,y,z,.ptr b 0] 160):=by rw[Ay _ (aO _)];exact Ad _ _
 have f1:((h.new (.cells [x,y,z,.ptr b 0] 160)).new (.cells (List.replicate 44 (.int .u8 0)) 165)).get (h.next+1)=some (.cells (List.replicate 44 (.int .u8 0)) 165):=Ad _ _;have n1:((h.new (.cells [x,y,z,.ptr b 0] 160)).new (.cells (List.replicate 44 (.int .u8 0)) 165)).next=h.next+2:=rfl
 rw[show(h.new (D3.cells [x,y,z,EV.ptr b 0] 160)).next=h.next+1 from rfl];generalize (h.new (.cells [x,y,z,.ptr b 0] 160)).new (.cells (List.replicate 44 (.int .u8 0)) 165)=h3 at O V f1 n1⊢;have o:=O.hb hb;have u:Ext h3 (h3.new (.cells [.Aq,.bool false] 233)):=Av.new _ _;have W:iF (h3.new (.cells [.Aq,.bool false] 233)) h3.next [] (fun i=>h3.next<=i):=BB (aE _)
 have n4:(h3.new (.cells [.Aq,.bool false] 233)).next=h3.next+1:=rfl
 generalize h3.new (.cells [.Aq,.bool false] 233)=h4 at u W n4⊢;have f:=u.hb o;have l1:=hb _ _ m.map;have l2:=hb _ _ m.row;have l3:=hb _ _ m.live;have E:=O.trans u;refine(R7 hK W f (fun i hi=>by omega) (by simp) (w:=1) (by omega) (by omega) (v:=j)).Am ?_;rintro _ h5 ⟨p5,p,U,t5⟩;refine YH (es:=es) (n3:=h3.next) hK s rfl j0 j1 (h0:=h) (h4:=h4) (b:=b) (ml:=ml) (ll:=ll) (fun h' c=>E.then c fun i a b=>by omega) (Nat.le_succ _) (by omega) (by omega) (by omega) (by omega) (by omega) K 0 h5 (by omega) (by omega) U t5 p p5 ?_ (p.at f (u.at o V) (by omega)) (p.at f (u.at o f1) (by omega));have J:=m.frame (E.get _ l1 id) (E.get _ l2 id) (E.get _ l3 id);exact J.frame (p.get _ (f _ _ J.map) (by omega)) (p.get _ (f _ _ J.row) (by omega)) (p.get _ (f _ _ J.live) (by omega))
section
theorem YJ:(Fk TT 131 0).2.1 = [29,30]:=by kernel_rfl
def mU(sq:Int)(es:List Me):Bool:=es.any fun x=>decide (sq<=x.seq)
structure pN(h:Ab)(l0 d0:Nat)(tm:Ba)(b1 b2:Nat)(x y w:EV)(sq:Int)(found:Bool):Prop where
 lp:h.get l0=some (Aw TT 131 36 0 tm (if found then .done else .ready) (if found then some .ret else none) d0)
 c1:h.get b1=some (.cells [x,y,I sq,w] 160)
 c2:h.get b2=some (.cells [.bool false] 4)
 hb:HB h
section
variable (H:Bv disp)
include H
theorem YK(he:2<=e){d0 b1:Nat}{x y w:EV}{sq i:Int}{z:Me}(V:pN h l0 d0 tm b1 b2 x y w sq false)(t1:tmp tm 1=.ptr b1 0)(t2:tmp tm 2=.ptr b2 0):
 ∃h',Ag TT disp K (e+1) true l0 [I i,.agg z.cells] h=some (.bool (decide (¬sq<=z.seq)),h')/\pN h' l0 d0 tm b1 b2 x y w sq (decide (sq<=z.seq))/\Av (fun j=>j=l0\/j=b2) h h':=by
 have E:=V.lp;simp only[aX,ak]at E;have p:=E;have g1:=V.c1;have g2:=V.c2;have hb:=V.hb;unfold Aw at p;rw[YJ]at p;rw[YL H he tm h (I i) _ p,t1,t2];have aj:=hb _ _ E;have u:l0≠b1:=Az E g1 (by simp[Aw]);have f:l0≠b2:=Az E g2 (by simp[Aw]);have ag:b1≠b2:=Az g1 g2 (by intro y;injection y with _ y;cases y);simp only[BJ,Aa];rw[mV (h:=h.new (.cells [EV.int .i64 0,.int .i64 0,.int .i64 0,.int .i64 0,.int .i64 0,.int .i64 0] 47)) (i:=h.next) (o:=0) (n:=6) (v:=.agg z.cells) (l:=[EV.int .i64 0,.int .i64 0,.int .i64 0,.int .i64 0,.int .i64 0,.int .i64 0]) (t:=47) (l':=z.cells) (Ad _ _) rfl rfl (Bn rfl)];obtain⟨h3,e_,J,e3,_⟩:=nP h (.cells [EV.int .i64 0,.int .i64 0,.int .i64 0,.int .i64 0,.int .i64 0,.int .i64 0] 47) (.cells z.cells 47);rw[e_];have O:=J.hb hb;have q0:=J.at hb E;have l3:=O _ _ q0;rw[Z8 q0];have c4:Av (fun j=>j=l0\/j=b2) h (h3.put l0 (Aw TT 131 36 0 tm .busy none d0)):=(Ext.to (S:=fun j=>j=l0\/j=b2) J).Ar (.inl (.inl rfl)) l3 _;have r0:(h3.put l0 (Aw TT 131 36 0 tm .busy none d0)).get l0=some (Aw TT 131 36 0 tm .busy none d0):=Ae _ _ _;have W:(h3.put l0 (Aw TT 131 36 0 tm .busy none d0)).get b1=some (.cells [x,y,I sq,w] 160):=by rw[Af _ u];exact J.at hb g1
 have r2:(h3.put l0 (Aw TT 131 36 0 tm .busy none d0)).get b2=some (.cells [.bool false] 4):=by rw[Af _ f];exact J.at hb g2
 have re:(h3.put l0 (Aw TT 131 36 0 tm .busy none d0)).get h.next=some (.cells z.cells 47):=by rw[Af _];exact e3
 have a:HB (h3.put l0 (Aw TT 131 36 0 tm .busy none d0)):=O.put l3 _;generalize h3.put l0 (Aw TT 131 36 0 tm .busy none d0)=h4 at c4 r0 W r2 re a⊢;have l4:=a _ _ r0;have U:=a _ _ r2;simp only[Xs,Aa];rw[Ai re rfl (v:=I z.seq) rfl,Ai W rfl (v:=I sq) rfl];simp only[I,Ac];by_cases hx:sq<=z.seq
 ·have e1:decide (z.seq≥sq)=true:=aM hx
  simp only[e1,Aa,hx,aB,aA,aC];rw[mV (o:=0) (n:=1) (v:=.bool false) (l':=[.bool false]) r2 rfl rfl rfl,Ri (by rw[Af _ (cY f)];exact r0)];exact⟨_,rfl,⟨Ae _ _ _,by rw[Af _ u,Af _ (cY ag)];exact W,by rw[Af _ f];exact Ae _ _ _,(a.put U _).put (by rw[Ab.Qr];exact l4) _⟩,(c4.Ar (.inl (.inr rfl)) U _).Ar (.inl (.inl rfl)) (by rw[Ab.Qr];exact l4) _⟩
 ·have e1:decide (z.seq≥sq)=false:=aJ hx
  simp only[e1,Aa,hx,aR,aA,aC];rw[Ri r0];exact⟨_,rfl,⟨Ae _ _ _,by rw[Af _ u];exact W,by rw[Af _ f];exact r2,a.put l4 _⟩,c4.Ar (.inl (.inl rfl)) l4 _⟩
theorem YM(he:3<=e){es:List Me}{d0 b1:Nat}{x y w:EV}{sq:Int}(hn:es.length<=256)(t1:tmp tm 1=.ptr b1 0)(t2:tmp tm 2=.ptr b2 0):∀(m i:Nat) (h:Ab),es.length-i<m->i<=es.length->pN h l0 d0 tm b1 b2 x y w sq false ->
 h.get ml=some (.cells (es.map Me.cells).flatten 47)->ml≠l0->ml≠b2 ->
 Ok (Cf (Ag TT disp K e false) (Ag TT disp K e true) K m (.Vv l0) (.slice ml 0 es.length es.length false) (I es.length) (I i) h) fun _ h'=>pN h' l0 d0 tm b1 b2 x y w sq (mU sq (es.drop i))/\Av (fun j=>j=l0\/j=b2) h h':=by
 intro m;induction m with
 | zero=>intro i h hm;omega
 | succ m W=>
  intro i h hm hi f V p u;rw[Cf];simp only[I,Ac,Aa];by_cases o:i<es.length
  ·have:decide ((i:Int)<(es.length:Int))=true:=by simp;omega
   simp only[this,Aa,F2];rw[Mw o,bM,Cn V rfl (tA es o)];rw[show mU sq (es.drop i)=(decide (sq<=es[i].seq)||mU sq (es.drop (i+1))) by rw[dU o];rfl];generalize es[i]=z
   try simp only[Aa]
   refine Ok.mk rfl rfl fun h3 E e3 _=>?_
   have U:=E.hb f.hb;rw[Cn e3 rfl (Aj (n:=6) rfl)];obtain⟨e,rfl⟩:∃k,e=k+1:=⟨e-1,by omega⟩;have hc:T5 (Ag TT disp K (e+1) false) (Ag TT disp K (e+1) true) (.Vv l0) [.int .i64 (i:Int),.agg z.cells] h3=Ag TT disp K (e+1) true l0 [I i,.agg z.cells] h3:=rfl;obtain⟨h4,r1,J,c4⟩:=YK (K:=K) H (e:=e) (by omega) (i:=i) (z:=z) (⟨E.at f.hb f.lp,E.at f.hb f.c1,E.at f.hb f.c2,U⟩:pN h3 l0 d0 tm b1 b2 x y w sq false) t1 t2;rw[hc,r1,Au];have c:Av (fun j=>j=l0\/j=b2) h h4:=(Ext.to E).trans c4;by_cases O:sq<=z.seq
   ·simp only[O,aC]at J
    simp only[O,aB,aA,Aa,aC,Bool.true_or];exact .ret ⟨J,c⟩
   ·simp only[O,aA]at J
    simp only[O,aR,aC,aA,Aa,Bool.false_or,F4,Ac];rw[Cl,show((i:Nat):Int)+1=((i+1:Nat):Int) by omega];refine(W (i+1) h4 (by omega) (by omega) J (c.at f.hb V fun y=>y.elim p u) p u).mono ?_;rintro _ h5 ⟨a,c5⟩;exact⟨a,c.trans c5⟩
  ·have:decide ((i:Int)<(es.length:Int))=false:=by simp;omega
   have e0:es.drop i = []:=List.drop_eq_nil_of_le (by omega);rw[e0];simp only[this,Aa];exact .ret ⟨f,Av.refl _⟩
omit H in
theorem YN {v l:Int}(h:Ab):Sh K (I v) (I l) h=some (.bool (decide (1<=v)&&decide (v<=l)),h):=by
 simp only[Sh,BK,I,Ac,Aa];by_cases h1:1<=v<;>by_cases h2:v<=l<;>simp[h1,h2,Aa]
end
end
section
def iH(x y z:Int)(es:List Me):Bool:=(decide (1<=x)&&decide (x<=281474976710655))&&((decide (1<=y)&&decide (y<=4294967295))&&((decide (1<=z)&&decide (z<=281474976710655))&&!mU z es))
theorem q8 {a:Ab}{b:Bool}(f:a.get q=some (.cells [.bool b] 4)):Jk TT [.c (.ptr q 0) 4] a=some (.bool b,a):=by
 have hr:I6 a q 0 1=some [.bool b]:=by unfold I6;rw[f];rfl
 unfold Jk;simp only[kg,show TT.size 4=some 1 by kernel_rfl,show TT.agg 4=some false by kernel_rfl,hr]
section
variable (H:Bv disp)
include H
theorem YO(he:4<=e)(hK:1000<K)(w1:Ext h0 h1){ll b1:Nat}{es:List Me}(s:Sm g)(m:Ob h1 b ml ll g es)(f:HB h1)(l1:h0.next<=b1)(l2:h0.next<=b2)(lm:ml<h0.next){x y:EV}{z:Int}(g1:h1.get b1=some (.cells [x,y,I z,.ptr b 0] 160))(f1:h1.get b2=some (.cells [.bool false] 4))(t1:tmp tm 1=.ptr b1 0)(t2:tmp tm 2=.ptr b2 0):
 Ok (Vr (Ag TT disp K e false) (Ag TT disp K e true) K tm (.ptr b1 0) (.ptr b2 0) h1 []) fun v h'=>v=.bool (!mU z es)/\Ext h0 h'/\HB h':=by
 have:=s.b0;have:=s.b1;have hlen:=m.len;simp only[Vr,Aa];rw[Ai g1 rfl (v:=.ptr b 0) rfl];simp only[X5,Aa,Fj];rw[Ai m.map rfl (v:=.slice ml 0 g.B.toNat g.B.toNat false) rfl,<-hlen];simp only[Aa];obtain⟨h2,e_,x2,q2,n2⟩:=nW h1 (.cells [.slice ml 0 es.length es.length false] 113);rw[e_];have O:=x2.hb f;have U:tmp (((tm.put 26 (some (.ptr b1 3))).put 27 (some (.ptr b 0))).put 28 (some (.func 104 [] [.ptr h1.next 0]))) 1=.ptr b1 0:=by simp only[It,reduceIte,Nat.reduceEqDiff];exact t1
 have V:tmp (((tm.put 26 (some (.ptr b1 3))).put 27 (some (.ptr b 0))).put 28 (some (.func 104 [] [.ptr h1.next 0]))) 2=.ptr b2 0:=by simp only[It,reduceIte,Nat.reduceEqDiff];exact t2
 generalize (((tm.put 26 (some (.ptr b1 3))).put 27 (some (.ptr b 0))).put 28 (some (.func 104 [] [.ptr h1.next 0])))=tm at U V⊢;obtain⟨e,rfl⟩:∃k,e=k+1:=⟨e-1,by omega⟩;refine Ok.range ?_;have x3:Ext h2 (Cg TT 131 36 0 tm h2):=Jn;have k0:(Cg TT 131 36 0 tm h2).get h2.next=some (.deferred true):=Lm
 have k1:(Cg TT 131 36 0 tm h2).get (h2.next+1)=some (Aw TT 131 36 0 tm .ready none h2.next):=Jy;generalize Cg TT 131 36 0 tm h2=h3 at x3 k0 k1⊢;have u:=x3.hb O;have p:Ext h1 h3:=x2.trans x3;have az:=f _ _ g1;have a0:=f _ _ f1;have a1:=f _ _ m.row;rw[Jm H (cZ _)];simp only[Gs,dr];rw[Ai (x3.at O q2) rfl (v:=.slice ml 0 es.length es.length false) rfl];simp only[Aa];have I3:pN h3 (h2.next+1) h2.next tm b1 b2 x y (.ptr b 0) z false:=⟨k1,p.at f g1,p.at f f1,u⟩
 refine(YM (K:=K) H (e:=e) (by omega) (es:=es) (ml:=ml) (by omega) U V K 0 h3 (by omega) (by omega) I3 (p.at f m.row) (by omega) (by omega)).mono ?_;rw[dF];rintro _ h4 ⟨W,c4⟩;have a3:=w1.next
 have l4:=W.hb _ _ W.lp;have k2:h2.next<h3.next:=u _ _ k0
 have kd:h4.get h2.next=some (.deferred true):=c4.at u k0 (by omega)
 have x4:Ext h0 h4:=(w1.trans p).then c4 fun i hi a=>by omega
 have ne:h2.next≠b2:=by omega
 have lp:=W.lp;have c2:=W.c2;have aa:=W.hb;revert lp;generalize mU z es=bb;intro lp;cases bb with
 | true=>
  simp only[bJ]at lp;refine .inr ⟨lp,?_⟩;have o:HB (h4.put (h2.next+1) (Aw TT 131 36 0 tm .exhausted (some .ret) h2.next)):=aa.put l4 _;refine Ok.unwind (cK.2 ⟨by simp,dP⟩) (fun d hd=>by rw[aP]at hd;subst hd;rw[Af _];exact kd) o fun h6 E _=>?_
  have g6:h6.get b2=some (.cells [.bool false] 4):=Av.at E o (by rw[Af _];exact c2) (by rw[aP];omega);rw[q8 g6];exact .ret ⟨rfl,(x4.Ar (.inr (by omega)) l4 _).then E fun i hi a=>by rw[aP]at hi;omega,E.hb o⟩
 | false=>
  simp only[aX,ak]at lp;refine .inl ⟨lp,?_⟩;simp only[Vo,dr];have o:HB (h4.put (h2.next+1) (Aw TT 131 36 0 tm .exhausted none h2.next)):=aa.put l4 _;have g5:(h4.put (h2.next+1) (Aw TT 131 36 0 tm .exhausted none h2.next)).get b2=some (.cells [.bool false] 4):=by rw[Af _];exact c2
  have x5:Ext h0 (h4.put (h2.next+1) (Aw TT 131 36 0 tm .exhausted none h2.next)):=x4.Ar (.inr (by omega)) l4 _;have d5:(h4.put (h2.next+1) (Aw TT 131 36 0 tm .exhausted none h2.next)).get h2.next=some (.deferred true):=by rw[Af _];exact kd
  generalize h4.put (h2.next+1) (Aw TT 131 36 0 tm .exhausted none h2.next)=h5 at o g5 x5 d5⊢;have l6:=o _ _ g5;refine Ok.gT g5 rfl rfl (by show 0<1;decide) ?_;have J:HB (h5.put b2 (.cells ([EV.bool false].set 0 (.bool true)) 4)):=o.put l6 _;refine Ok.unwind (cK.2 ⟨by simp,dP⟩) (fun d hd=>by rw[aP]at hd;subst hd;rw[Af _ (cY ne)];exact d5) J fun h6 E _=>?_
  have g6:h6.get b2=some (.cells [.bool true] 4):=Av.at E J (Ae _ _ _) (by rw[aP];exact cY ne);rw[q8 g6];exact .ret ⟨rfl,(x5.Ar (.inr l2) l6 _).then E fun i hi a=>by rw[aP]at hi;omega,E.hb J⟩
end
end
section
theorem wL {v l:Int}(h:Ab):Sh K (.int .i64 v) (.int .i64 l) h=some (.bool (decide (1<=v)&&decide (v<=l)),h):=YN h
theorem YP(f1:h1.get b2=some (.cells [.bool false] 4))(w1:Ext h0 h1)(a:HB h1)(f:h0.next<=b2):Ok (f_ 1 (.ptr b2 0) (.bool false) h1 fun h=>Fz [] h fun h=>Jk TT [.c (.ptr b2 0) 4] h) fun v h'=>v=.bool false/\Ext h0 h'/\HB h':=by
 have l:=a _ _ f1;refine Ok.gT f1 rfl rfl (by show 0<1;decide) ?_;show Ok (Jk TT [.c (.ptr b2 0) 4] (h1.put b2 (.cells [.bool false] 4))) _;rw[q8 (b:=false) (Ae _ _ _)];exact .ret ⟨rfl,w1.Ar (.inr f) l _,a.put l _⟩
section
variable (H:Bv disp)
include H
theorem BL(hd:5<=d)(hK:1000<K){ll:Nat}{es:List Me}(s:Sm g)(m:Ob h b ml ll g es)(hb:HB h)(x y z:Int):
 Ok (Ag TT disp K d false 131 [.agg [I x,I y,I z,.ptr b 0]] h) fun v h'=>v=.bool (iH x y z es)/\Ext h h'/\HB h':=by
 obtain⟨e,rfl⟩:∃k,d=k+1:=⟨d-1,by omega⟩;rw[YQ H (by omega)];simp only[BM,Aa];have w1:Ext h ((h.new (.cells [I x,I y,I z,.ptr b 0] 160)).new (.cells [.bool false] 4)):=(Av.new _ _).Da _;have a:((h.new (.cells [I x,I y,I z,.ptr b 0] 160)).new (.cells [.bool false] 4)).get h.next=some (.cells [I x,I y,I z,.ptr b 0] 160):=by rw[Ay _ (aO _)];exact Ad _ _
 have f1:((h.new (.cells [I x,I y,I z,.ptr b 0] 160)).new (.cells [.bool false] 4)).get (h.next+1)=some (.cells [.bool false] 4):=Ad _ _;have n1:((h.new (.cells [I x,I y,I z,.ptr b 0] 160)).new (.cells [.bool false] 4)).next=h.next+2:=rfl
 rw[show(h.new (D3.cells [I x,I y,I z,EV.ptr b 0] 160)).next=h.next+1 from rfl];generalize (h.new (.cells [I x,I y,I z,.ptr b 0] 160)).new (.cells [.bool false] 4)=h1 at w1 a f1 n1⊢;have f:=w1.hb hb;have no:=YP (h0:=h) f1 w1 f (Nat.le_succ _);have o:Er (.tuple []) false=false/\Er (.tuple []) true=false:=⟨rfl,rfl⟩;unfold iH;rw[Ai a rfl (v:=.ptr b 0) rfl,show ∀k:EV->R,J5 iW (bin TT .eql 43) (.ptr b 0) .Ch k=k (.bool false)from fun k=>by kernel_rfl];simp only[Aa,Ac];rw[Ai a rfl (v:=I x) rfl]
 try simp only[I]
 rw[wL,Au];cases(decide (1<=x)&&decide (x<=281474976710655))with
 | false=>
  simp only[Aa,Ac,Pp,L9,Jj,av];exact no
 | true=>
 simp only[Aa,Ac,Pp,bI];rw[Ai a rfl (v:=I y) rfl]
 try simp only[I]
 rw[wL,Au];cases(decide (1<=y)&&decide (y<=4294967295))with
 | false=>
  simp only[Aa,Ac,L9,Jj,av];exact no
 | true=>
 simp only[Aa,Ac,L9,bI];rw[Ai a rfl (v:=I z) rfl]
 try simp only[I]
 rw[wL,Au];cases(decide (1<=z)&&decide (z<=281474976710655))with
 | false=>
  simp only[Aa,Ac,Jj,av];exact no
 | true=>
 simp only[Aa,Ac,Jj,bI];have m1:=m.frame (w1.get _ (hb _ _ m.map) id) (w1.get _ (hb _ _ m.row) id) (w1.get _ (hb _ _ m.live) id);exact YO H (by omega) hK w1 s m1 f (aE _) (Nat.le_succ _) (hb _ _ m.row) a f1 (by simp only[It,reduceIte,Nat.reduceEqDiff]) (by simp only[It,reduceIte,Nat.reduceEqDiff])
end
end
section
def jg(h:Ab)(s:EV)(q:Nat)(e:TypeId)(sz len:Nat)(l:List EV):Prop:=
 Cd h s q e sz len l\/(len=1/\s=.slice q 0 1 1 false/\h.get q=some (.cells l e)/\l.length=sz)
theorem jg.frame{s:EV}{e:TypeId}{len:Nat}{l:List EV}(r:jg h s q e sz len l)(g:0<len->h'.get q=h.get q):jg h' s q e sz len l:=by
 rcases r with r|⟨a,b,c,d⟩
 ·exact .inl (r.frame g)
 ·exact .inr ⟨a,b,by rw[g (by omega)];exact c,d⟩
theorem jg.lt{s:EV}{e:TypeId}{len:Nat}{l:List EV}(r:jg h s q e sz len l)(hb:HB h)(f:0<len):q<h.next:=by
 rcases r with r|⟨a,b,c,d⟩
 ·exact hb _ _ (r.block f)
 ·exact hb _ _ c
theorem YR{s:EV}{e:TypeId}{len:Nat}{l z:List EV}(r:jg h s q e sz len l)(hb:HB h)(hp:v.plain=true)(f:z.length=sz)(a:v.cells.length=sz)(hs:sz<=65536)(u:len<=65535)
 (o:∀h',Cd h' (.slice (h.next+1) 0 (len+1) (len+1) true) (h.next+1) e sz (len+1) (l++v.cells)->h'.next=h.next+2->Av (fun i=>0<len/\i=q) h h'->Ok (k (.slice (h.next+1) 0 (len+1) (len+1) true) h') Q) :
 Ok (Am (Bz z e sz 1 [(0,v)] h) fun w h=>Am (Eo e sz s w h) k) Q:=by
 rcases r with r|⟨rfl,rfl,g,ll⟩
 ·exact Md r hb hp f a hs (by omega) o
 ·rw[Wb hp f a hs,Au]
  have p:(h.new (.cells v.cells e)).get q=some (.cells l e):=by rw[Ay _ (hb _ _ g)];exact g
  have c1:=X1 (sz:=sz) (Ad h (.cells v.cells e)) a;have c2:=X1 (sz:=sz) p ll;have e1:Eo e sz (.slice q 0 1 1 false) (.slice h.next 0 1 1 false) (h.new (.cells v.cells e))=some (.slice (h.next+1) 0 2 2 true,(h.new (.cells v.cells e)).new (.vec (l++v.cells) e sz)):=by
   unfold Eo;simp only[lenOf,G2,c1,c2,q_];rfl
  rw[e1,Au];refine o _ (.inr ⟨by omega,rfl,Ad _ _,by rw[aF,ll,a];omega⟩) rfl ((Av.new _ _).Da _)
def ra(L:List Fr):Prop:=∀f∈L,f.Wf/\hY f=true
theorem BN(a b c d e:EV){x y:List EV}(h:x.length=y.length):Mv ([a,b,c,d,e]++x) 5 y=some ([a,b,c,d,e]++y):=by
 rw[tL (by rw[aF,h];exact aE _)];have:([a,b,c,d,e]++x).drop (5+y.length) = []:=dh (by rw[aF,h];exact aE _);rw[this,dO];rfl
theorem YS{l:List Nat}(a:l.length=44):jh (Df [(0,1),(1,1),(2,1),(3,1),(4,1),(5,44)]) [(0,EV.int .i64 4),(1,I zn),(3,I y),(4,I x),(5,.agg (Bj l))] (List.replicate 5 (EV.int .i64 0)++List.replicate 44 (EV.int .u8 0))=some (Fr.mk 4 zn 0 y x l).cells:=by
 show Bb (Nat.beq (Ga (Bj l)) 44) (oB (fun z=>some z) (Mv ([I 4,I zn,I 0,I y,I x]++List.replicate 44 (.int .u8 0)) 5 (Bj l))) none=_;rw[Bh,Bg,a,BN _ _ _ _ _ (by rw[Bg,a,bV])];rfl
theorem wM {z:Int}{es:List Me}(h:iH x y z es=true):(1<=x/\x<=281474976710655)/\(1<=y/\y<=4294967295)/\1<=z/\z<=281474976710655:=by
 unfold iH at h;simp only[aS,aV]at h;exact⟨h.1,h.2.1,h.2.2.1.1,h.2.2.1.2⟩
def iM(g:Gm)(es:List Me)(x y z zn:Int)(i:Nat):Fr:=if i=0 then⟨4,zn,0,y,x,iG (jN g z)⟩else⟨5,zn,i,y,x,iG (ju es i 2)⟩
def Gb(g:Gm)(es:List Me)(x y z zn:Int)(n:Nat):List Fr:=(List.range n).map (iM g es x y z zn)
theorem rh(g:Gm)(es:List Me)(x y z zn:Int)(n:Nat):(Gb g es x y z zn n).length=n:=by unfold Gb;simp
theorem BO(g:Gm)(es:List Me)(x y z zn:Int)(n:Nat):Gb g es x y z zn (n+1)=Gb g es x y z zn n++[iM g es x y z zn n]:=by unfold Gb;rw[dE,cR];rfl
section
variable (H:Bv disp)
theorem YT(hK:1000<K){c r:Ah}{ll f:Nat}{es:List Me}(s:Sm g)(m:Ob h0 b ml ll g es)(o:HB h0){z:Int}(x0:1<=x)(x1:x<=281474976710655)(y0:1<=y)(y1:y<=4294967295)(z0:0<=zn)(z1:zn<=65535)(lt:h0.next<=t)(lf:h0.next<=f)(tf:t≠f):
 ∀(n i:Nat) (h:Ab) (v:EV) (q:Nat) (L:List Fr) (F:Fr),g.parts.toNat-i<n->1<=i->i<=g.parts->Ext h0 h->HB h->h.get t=some (.cells [I x,I y,I z,.ptr b 0] 160)->h.get f=some (.cells F.cells 167)->F.Wf->F.Al=zn->F.Ao=y->F.seq=x->L=Gb g es x y z zn i->ra L->jg h v q 167 49 i (L.map Fr.cells).flatten->h0.next<=q->q≠t->q≠f ->
 Ok (Tb c r K n (.ptr t 0) (.ptr f 0) v (I i) h) fun w h'=>∃v q L,w=.tuple [v,I 0]/\jg h' v q 167 49 L.length (L.map Fr.cells).flatten/\h0.next<=q/\L=Gb g es x y z zn g.parts.toNat/\ra L/\Ext h0 h'/\HB h':=by
 have:=s.b0;have:=s.b1;have hp:2<=g.parts/\g.parts<=200:=by unfold Gm.parts;omega
 intro n;induction n with
 | zero=>intro i h v q L F hn;omega
 | succ n ih=>
  intro i h v q L F hn i1 hi xx hb gt gf w fz fe fs hL hI row lq qt qf;rw[Tb];simp only[Aa];rw[Ai gt rfl (v:=.ptr b 0) rfl];have mh:=m.frame (xx.get _ (o _ _ m.map) id) (xx.get _ (o _ _ m.row) id) (xx.get _ (o _ _ m.live) id);refine(Jz (K:=K) mh hb).Am ?_;rintro _ h2 ⟨rfl,x2,bj⟩;rw[tM s,Au];have V:Ext h (h2.new (.cells (gL g) 23)):=x2.Da _;generalize h2.new (.cells (gL g) 23)=h3 at V⊢;have u:=V.hb hb;have ab:=V.at hb gt;have ay:=V.at hb gf;have E:=row.frame (h':=h3) fun y=>V.get _ (row.lt hb y) id
  simp only[I,Ac];by_cases ad:(i:Int)<g.parts
  ·simp only[ad,aC,Aa,BP]
   rw[Cy ab rfl,Aj (n:=4) rfl];simp only[Aa];have J:Ext h0 h3:=xx.trans V;refine(YI hK s (m.frame (J.get _ (o _ _ m.map) id) (J.get _ (o _ _ m.row) id) (J.get _ (o _ _ m.live) id)) u (by omega) (by omega)).Am ?_;rintro _ h4 ⟨⟨rfl,hl,hu⟩,x4,az⟩;have eF:iM g es x y z zn i=Fr.mk 5 zn i y x (iG (ju es i 2)):=aG (by omega);generalize iG (ju es (i:Int) 2)=l at hl hu eF⊢;have ae:=x4.at u ay;have l4:=az _ _ ae;have a1:Ext h0 h4:=J.trans x4;have af:=E.frame (h':=h4) fun y=>x4.get _ (E.lt u y) id
   have a2:=x4.at u ab;refine Ok.gT ae rfl rfl (by rw[Fr.Bc w];decide) ?_;refine Ok.gT (Ae _ _ _) rfl rfl (by rw[bP,Fr.Bc w];decide) ?_;have e5:((F.cells.set 0 (.int .i64 5)).set 2 (.int .i64 (i:Int))) = [I 5,I F.Al,I i,I F.Ao,I F.seq]++Bj F.body:=rfl;rw[e5];refine Ok.st ([I 5,I F.Al,I i,I F.Ao,I F.seq]++Bj l) (Ae _ _ _) rfl (by show Ga (Bj l)=44;rw[Bh,Bg,hl]) (BN (y:=Bj l) _ _ _ _ _ (by rw[Bg,Bg,w.len,hl])) ?_;have x5:Ext h0 (((h4.put f (.cells (F.cells.set 0 (.int .i64 5)) 167)).put f (.cells ([I 5,I F.Al,I i,I F.Ao,I F.seq]++Bj F.body) 167)).put f (.cells ([I 5,I F.Al,I i,I F.Ao,I F.seq]++Bj l) 167)):=((a1.Ar (.inr lf) l4 _).Ar (.inr lf) l4 _).Ar (.inr lf) l4 _;have O:(((h4.put f (.cells (F.cells.set 0 (.int .i64 5)) 167)).put f (.cells ([I 5,I F.Al,I i,I F.Ao,I F.seq]++Bj F.body) 167)).put f (.cells ([I 5,I F.Al,I i,I F.Ao,I F.seq]++Bj l) 167)).get f=some (.cells (Fr.mk 5 F.Al i F.Ao F.seq l).cells 167):=Ae _ _ _;have W:(((h4.put f (.cells (F.cells.set 0 (.int .i64 5)) 167)).put f (.cells ([I 5,I F.Al,I i,I F.Ao,I F.seq]++Bj F.body) 167)).put f (.cells ([I 5,I F.Al,I i,I F.Ao,I F.seq]++Bj l) 167)).get t=some (.cells [I x,I y,I z,.ptr b 0] 160):=by
    rw[Af _ (cY tf),Af _ (cY tf),Af _ (cY tf)];exact a2
   have U:=af.frame (h':=(((h4.put f (.cells (F.cells.set 0 (.int .i64 5)) 167)).put f (.cells ([I 5,I F.Al,I i,I F.Ao,I F.seq]++Bj F.body) 167)).put f (.cells ([I 5,I F.Al,I i,I F.Ao,I F.seq]++Bj l) 167))) fun y=>by
    rw[Af _ (cY qf),Af _ (cY qf),Af _ (cY qf)]
   generalize (((h4.put f (.cells (F.cells.set 0 (.int .i64 5)) 167)).put f (.cells ([I 5,I F.Al,I i,I F.Ao,I F.seq]++Bj F.body) 167)).put f (.cells ([I 5,I F.Al,I i,I F.Ao,I F.seq]++Bj l) 167))=h5 at x5 O W U⊢;have p:=x5.hb o;have w5:(Fr.mk 5 F.Al i F.Ao F.seq l).Wf:=⟨hl,hu⟩;rw[Cn O rfl (Aj (Fr.Bc w5))];refine YR U p rfl rfl (Fr.Bc w5) (by omega) (by omega) ?_;intro h6 ag n6 c6;simp only[BQ,I,Ac];rw[Cl,show((i:Nat):Int)+1=((i+1:Nat):Int) by omega];have t5:=p _ _ W;have f5:=p _ _ O;refine ih (i+1) h6 _ (h5.next+1) (L++[Fr.mk 5 F.Al i F.Ao F.seq l]) _ (by omega) (by omega) (by omega) (x5.then c6 fun j hj a=>by omega) (c6.hb p) (c6.at p W fun y=>qt y.2.symm) (c6.at p O fun y=>qf y.2.symm) w5 fz fe fs (by rw[BO,hL,eF,fz,fe,fs]) ?_ ?_ (by have:=x5.next;omega) (by omega) (by omega)
   ·intro fr a3
    rcases bR.1 a3 with y|y
    ·exact hI fr y
    ·rw[aP]at y
     subst y;refine⟨w5,?_⟩;simp only[hY,wi,aS,aV,fz,fe,fs];omega
   ·rw[cR,dW,show([Fr.mk 5 F.Al i F.Ao F.seq l].map Fr.cells).flatten=(Fr.mk 5 F.Al i F.Ao F.seq l).cells from dO _];exact .inl ag
  ·simp only[ad,aA,Aa,BR]
   have eL:L.length=i:=by rw[hL,rh]
   exact .ret ⟨v,q,L,rfl,by rw[eL];exact E,lq,by rw[hL];congr 1;omega,hI,xx.trans V,u⟩
include H
theorem BS(hd:7<=d)(hK:1000<K){ll:Nat}{es:List Me}(hr:rtB g=true)(m:Ob h b ml ll g es)(hb:HB h){z:Int}(hR:iH x y z es=true)(n0:0<=zn)(n1:zn<g.D*g.Z):
 Ok (Ag TT disp K d false 212 [.agg [I x,I y,I z,.ptr b 0],I zn] h) fun w h'=>∃v q L,w=.tuple [v,I 0]/\jg h' v q 167 49 L.length (L.map Fr.cells).flatten/\h.next<=q/\L=Gb g es x y z zn g.parts.toNat/\ra L/\Ext h h'/\HB h':=by
 have s:=Ja hr;obtain⟨⟨x0,x1⟩,⟨y0,y1⟩,z0,z1⟩:=wM hR;have:=s.b0;have:=s.b1;have:=s.s0;have:=s.d0;have:=s.d1;have:=s.z0;have:=s.z1;obtain⟨m0,m1⟩:=Q6 (a:=g.D) (b:=g.Z) (A:=8) (B:=64);obtain⟨e,rfl⟩:∃k,d=k+1:=⟨d-1,by omega⟩;rw[YU H (by omega)];simp only[BT,Aa];obtain⟨h1,e_,w1,g1,a6⟩:=nW h (.cells [I x,I y,I z,.ptr b 0] 160);rw[e_];have u:=w1.hb hb;have E:=m.frame (w1.get _ (hb _ _ m.map) id) (w1.get _ (hb _ _ m.row) id) (w1.get _ (hb _ _ m.live) id);rw[Cy g1 rfl,Aj (n:=4) rfl];simp only[Aa];refine(BL (K:=K) H (d:=e) (by omega) hK s E u x y z).Am ?_;rw[hR];rintro _ h2 ⟨rfl,W,J⟩;have g2:=W.at u g1;simp only[Aa,Ac];rw[Ai g2 rfl (v:=.ptr b 0) rfl];have m2:=E.frame (W.get _ (u _ _ E.map) id) (W.get _ (u _ _ E.row) id) (W.get _ (u _ _ E.live) id);refine(Jz (K:=K) m2 J).Am ?_;rintro _ h3 ⟨rfl,x3,ab⟩;refine(wN (K:=K) (g:=g) ab zn 0).Am ?_;rintro _ h4 ⟨rfl,x4⟩;have hh:Sr g zn 0=true:=by
  simp only[Sr,hr,wi,bI,aS,aV];omega
 rw[hh];have O:=x4.hb ab;simp only[Aa,BU,BV];have o:Ext h2 h4:=x3.trans x4;have g4:=o.at J g2;have l4:=O _ _ g4;have m4:=m2.frame (o.get _ (J _ _ m2.map) id) (o.get _ (J _ _ m2.row) id) (o.get _ (J _ _ m2.live) id);rw[Hb l4,Ai g4 rfl (v:=I y) rfl]
 try simp only[Aa,As]
 rw[Hb l4,Ai g4 rfl (v:=I x) rfl]
 try simp only[Aa,As]
 rw[Hb l4,Cy g4 rfl,Aj (n:=4) rfl]
 try simp only[Aa,As]
 refine Ok.bE (P:=fun v h'=>oq v (iG (jN g z))/\Ext h4.lift h') ((YF hK s (m4.frame (Bx _ _) (Bx _ _) (Bx _ _)) (C8 O) (by omega) (by omega)).mono fun _ _ a=>⟨a.1,a.2.1⟩) (fun _ _ p=>p.2) ?_;rintro _ bb h5 ⟨⟨rfl,hl,hu⟩,_⟩ _ x5;have eF:iM g es x y z zn 0=Fr.mk 4 zn 0 y x (iG (jN g z)):=rfl;generalize iG (jN g z)=l at hl hu eF⊢;have U:=x5.hb O;have g5:=x5.at O g4;have w5:(Fr.mk 4 zn 0 y x l).Wf:=⟨hl,hu⟩;rw[Ax (l:=(Fr.mk 4 zn 0 y x l).cells) ?_]
 ·simp only[Aa,As]
  rw[G1];refine Ok.mS (xs:=(Fr.mk 4 zn 0 y x l).cells) (Ad _ _) (by simp) (Fr.Bc w5) ?_;obtain⟨h6,e_,x6,g6,n6⟩:=nP h5 (.cells (List.replicate 5 (EV.int .i64 0)++List.replicate 44 (.int .u8 0)) 167) (.cells (Fr.mk 4 zn 0 y x l).cells 167);rw[e_];have V:=x6.hb U;rw[Cy g6 rfl,Aj (Fr.Bc w5)];simp only[Aa];rw[Wb (v:=.agg (Fr.mk 4 zn 0 y x l).cells) rfl (by simp) (Fr.Bc w5),Au];have x7:Ext h6 (h6.new (.cells (Fr.mk 4 zn 0 y x l).cells 167)):=Av.new _ _;have ao:Ext h h6:=(((w1.trans W).trans o).trans x5).trans x6;have aq:Ext h (h6.new (.cells (Fr.mk 4 zn 0 y x l).cells 167)):=ao.trans x7;have k1:=(w1.trans W).next
  have k2:=o.next
  have k3:=x5.next
  have lg:=U _ _ g5;refine YT hK s m hb x0 x1 y0 y1 n0 (by omega) (aE _) (f:=h5.next) (by omega) (by omega) K 1 _ (.slice h6.next 0 1 1 false) h6.next [Fr.mk 4 zn 0 y x l] (Fr.mk 4 zn 0 y x l) (by unfold Gm.parts;omega) (aE _) (by unfold Gm.parts;omega) aq (x7.hb V) (x7.at V (x6.at U g5)) (x7.at V g6) w5 rfl rfl rfl (by rw[<-eF];rfl) ?_ (.inr ⟨rfl,rfl,?_,?_⟩) (by omega) (by omega) (by omega)
  ·intro fr ae
   rw[aP]at ae;subst ae;refine⟨w5,?_⟩;simp only[hY,wi,aS,aV];omega
  ·rw[show([Fr.mk 4 zn 0 y x l].map Fr.cells).flatten=(Fr.mk 4 zn 0 y x l).cells from dO _];exact Ad _ _
  ·rw[show([Fr.mk 4 zn 0 y x l].map Fr.cells).flatten=(Fr.mk 4 zn 0 y x l).cells from dO _];exact Fr.Bc w5
 ·exact YS hl
end
end
section
def tN(X:List (List EV)):Prop:=∀x∈X,x.length=64/\U8 x
theorem jg.ix{s:EV}{e:TypeId}{len:Nat}{l:List EV}(r:jg h s q e sz len l)(hj:j<len)(k:EV->R):ir sz s (I j) k=k (.ptr q (j*sz)):=by
 rcases r with r|⟨rfl,rfl,c,d⟩
 ·exact r.ix hj .i64 k
 ·unfold I;rw[Mw hj,bM]
theorem jg.kC{s:EV}{e:TypeId}{len:Nat}{l x:List EV}(r:jg h s q e sz len l)(f:0<len){o:Nat}(a:Og l o n=some x)(k:EV->R):Pg n (.ptr q o) h k=k (.agg x):=by
 rcases r with r|⟨rfl,rfl,c,d⟩
 ·exact Cn (r.block f) rfl a
 ·exact Cn c rfl a
theorem jg.Hg{s:EV}{e:TypeId}{len:Nat}{l:List EV}(r:jg h s q e sz len l)(k:EV->R):Ev.Hg s k=k (I len):=by
 rcases r with r|⟨rfl,rfl,c,d⟩
 ·exact r.Hg k
 ·rfl
theorem YV {L:List Fr}(o:ra L){f:Fr}(a:L[i]? = some f):Og (L.map Fr.cells).flatten (i*49) 49=some f.cells:=
 tG (n:=49) _ _ _ (fun x p=>by obtain⟨f,a,rfl⟩:=cW.1 p;exact Fr.Bc (o f a).1) (by rw[bD,a];rfl)
theorem YW(hK:10000<K){c r:Ah}{v3 W:Nat}{fv:EV}{L:List Fr}(hI:ra L)(hL:L.length<=200)(l3:h0.next<=v3)(lq:h0.next<=W):
 ∀(n i:Nat) (h:Ab) (v:EV) (q:Nat) (X:List (List EV)),L.length-i<n->i<=L.length->Ext h0 h->HB h0->HB h->h.get v3=some (.cells Be 96)->jg h fv W 167 49 L.length (L.map Fr.cells).flatten->X=(L.take i).map (fun f=>Bj (L6 f))->tN X->Cd h v q 30 64 i X.flatten->(0<i->h0.next<=q/\q≠W/\q≠v3) ->
 Ok (Qk c r K n (.ptr v3 0) v fv (I L.length) (I i) h) fun w h'=>∃v q X,w=.tuple [v,I 0]/\Cd h' v q 30 64 X.length X.flatten/\(0<X.length->h0.next<=q)/\X=L.map (fun f=>Bj (L6 f))/\tN X/\Ext h0 h'/\HB h':=by
 intro n;induction n with
 | zero=>intro i h v q X hn;omega
 | succ n ih=>
  intro i h v q X hn hi xx ad hb gv rf U hS row V;rw[Qk];simp only[I,Ac];by_cases o:i<L.length
  ·have:decide ((i:Int)<(L.length:Int))=true:=by simp;omega
   simp only[this,Aa,BW];have w:(L[i]).Wf:=(hI _ (bH o)).1;have fr:=(hI _ (bH o)).2;have e1:=YV hI (aD o);have ix:=rf.ix o;simp only[I]at ix;rw[ix,rf.kC (by omega) e1];have eT:(L.take (i+1)).map (fun f=>Bj (L6 f))=(L.take i).map (fun f=>Bj (L6 f))++[Bj (L6 L[i])]:=by
    rw[cD o,cR];rfl
   generalize L[i]=f at w fr e1 eT⊢
   try simp only[Aa]
   refine Ok.mk (by simp) (Fr.Bc w) fun h2 x2 g2 _=>?_
   have u:=x2.hb hb;rw[Cy (x2.at hb gv) rfl,Aj (n:=256) Pr];simp only[Aa];rw[Cn g2 rfl (Aj (Fr.Bc w))];refine(BX w fr u hK).Am ?_;rintro _ h3 ⟨rfl,x3⟩;have ag:=x3.hb u;simp only[Aa];refine Ok.mk (by simp) (by rw[Bg,ot w]) fun h4 x4 g4 _=>?_
   have E:=x4.hb ag;have p:Ext h h4:=(x2.trans x3).trans x4;have el:(Bj (L6 f)).length=64:=by rw[Bg,ot w]
   simp only[I,Ac,aB,aA,Aa,BZ];rw[Cn g4 rfl (Aj el)];have J:=row.frame (h':=h4) fun y=>p.get _ (hb _ _ (row.block y)) id
   refine Md J E rfl (by simp) el (by omega) (by omega) ?_;intro h5 O n5 c5;simp only[B',Ac];rw[Cl,show((i:Nat):Int)+1=((i+1:Nat):Int) by omega];have lv:=hb _ _ gv;have ah:=rf.lt hb (by omega);have nx:=p.next
   have c:Av (fun j=>0<i/\j=q) h h5:=(Ext.to p).trans c5;refine ih (i+1) h5 _ (h4.next+1) (X++[Bj (L6 f)]) (by omega) (by omega) (xx.then c fun j hj a=>?_) ad (c5.hb E) (c.at hb gv fun y=>(V y.1).2.2 y.2.symm) (rf.frame fun _=>c.get _ ah fun y=>(V y.1).2.1 y.2.symm) (by rw[eT,U]) ?_ ?_ (fun _=>⟨by have:=xx.next;omega,by omega,by omega⟩)
   ·have:=(V hj.1).1
    have:=hj.2;omega
   ·intro x hx
    rcases bR.1 hx with y|y
    ·exact hS x y
    ·rw[aP]at y
     subst y;exact⟨el,_,wO w,rfl⟩
   ·rw[dW,show([Bj (L6 f)]).flatten=Bj (L6 f)from dO _];exact O
  ·have:i=L.length:=by omega
   subst this;have:decide ((L.length:Int)<(L.length:Int))=false:=by simp
   simp only[this,Aa,B_];rw[bW]at U;have lX:X.length=L.length:=by rw[U,bh]
   exact .ret ⟨v,q,X,rfl,by rw[lX];exact row,fun y=>(V (by omega)).1,U,hS,xx,hb⟩
section
variable (H:Bv disp)
include H
theorem YX(hd:8<=d)(hK:10000<K){ll:Nat}{es:List Me}(hr:rtB g=true)(m:Ob h b ml ll g es)(hb:HB h){z:Int}(hR:iH x y z es=true)(n0:0<=zn)(n1:zn<g.D*g.Z):
 Ok (Ag TT disp K d false 184 [Uh,.agg [I x,I y,I z,.ptr b 0],I zn] h) fun w h'=>∃v q X,w=.tuple [v,I 0]/\Cd h' v q 30 64 X.length X.flatten/\(0<X.length->h.next<=q)/\X=(Gb g es x y z zn g.parts.toNat).map (fun f=>Bj (L6 f))/\tN X/\Ext h h'/\HB h':=by
 have s:=Ja hr;have:=s.b0;have:=s.b1;obtain⟨e,rfl⟩:∃k,d=k+1:=⟨d-1,by omega⟩;rw[YY H (by omega)];simp only[CA,Uh,Aa];have w1:Ext h ((h.new (.cells Be 96)).new (.cells [I x,I y,I z,.ptr b 0] 160)):=(Av.new _ _).Da _;have c1:((h.new (.cells Be 96)).new (.cells [I x,I y,I z,.ptr b 0] 160)).get h.next=some (.cells Be 96):=by rw[Ay _ (aO _)];exact Ad _ _
 have U:((h.new (.cells Be 96)).new (.cells [I x,I y,I z,.ptr b 0] 160)).get (h.next+1)=some (.cells [I x,I y,I z,.ptr b 0] 160):=Ad _ _;have p:((h.new (.cells Be 96)).new (.cells [I x,I y,I z,.ptr b 0] 160)).next=h.next+2:=rfl
 rw[show(h.new (.cells Be 96)).next=h.next+1 from rfl];generalize (h.new (.cells Be 96)).new (.cells [I x,I y,I z,.ptr b 0] 160)=h1 at w1 c1 U p⊢;have a:=w1.hb hb;rw[Cy U rfl,Aj (n:=4) rfl];simp only[Aa];refine(BS (K:=K) H (d:=e) (by omega) (by omega) hr (m.frame (w1.get _ (hb _ _ m.map) id) (w1.get _ (hb _ _ m.row) id) (w1.get _ (hb _ _ m.live) id)) a hR n0 n1).Am ?_;rintro _ h2 ⟨v,q,L,rfl,row,lq,hL,W,V,u⟩;simp only[Aa,I,Ac,aB,aA,CB];rw[row.Hg];have hp:g.parts<=200:=by unfold Gm.parts;omega
 have lL:L.length=g.parts.toNat:=by rw[hL,rh]
 have E:Ext h h2:=w1.trans V;refine(YW hK W (by omega) (aE h.next) (by have:=w1.next;omega) K 0 h2 _ 0 [] (by omega) (by omega) E hb u (V.at a c1) row rfl (fun x hx=>by cases hx) (Cd.nil _ _ _ _) (fun y=>absurd y (bN _))).mono ?_;rintro _ h3 ⟨v',q',X,rfl,o,J,hX,hS,xx,O⟩;exact⟨v',q',X,rfl,o,J,by rw[hX,hL],hS,xx,O⟩
end
end
structure Dk(S T:Jo):Prop where
 n:T.dv.n=S.dv.n
 size:T.dv.size=S.dv.size
 op:T.dv.op=S.dv.op
 ev:T.ev.length+T.Qc.length=S.ev.length+S.Qc.length
theorem Dk.refl(S:Jo):Dk S S:=⟨rfl,rfl,rfl,rfl⟩
theorem Dk.trans {S T U:Jo}(a:Dk S T)(b:Dk T U):Dk S U:=⟨b.n.trans a.n,b.size.trans a.size,b.op.trans a.op,b.ev.trans a.ev⟩
def Vk(D E:Dv):Prop:=E.n=D.n/\E.size=D.size/\E.op=D.op
theorem YZ(D:Dv)(i:Int)(st:Nat):Vk D (D.fail i st):=by
 unfold Dv.fail;split<;>exact⟨rfl,rfl,rfl⟩
theorem Y0(D:Dv)(z off:Int)(p:List EV):Vk D (D.mW z off p):=by
 unfold Dv.mW;split<;>exact⟨rfl,rfl,rfl⟩
theorem Y1(D:Dv)(e:Y6):Vk D (D.Su e):=by
 unfold Dv.Su
 repeat' split
 all_goals first|exact Y0 _ _ _ _|exact YZ _ _ _|exact⟨rfl,rfl,rfl⟩
theorem CC:∀(ev:List Y6) (D:Dv) (Qc:List Y6),Dk ⟨D,ev,Qc⟩ (ki ev D Qc)
 | [],D,Qc=>by unfold ki;exact⟨rfl,rfl,rfl,rfl⟩
 | e::r,D,Qc=>by
  unfold ki;split
  ·exact⟨rfl,rfl,rfl,rfl⟩
  ·have f:=CC r (D.Su e) (Qc++[e])
   obtain⟨a,b,c⟩:=Y1 D e;refine⟨f.n.trans a,f.size.trans b,f.op.trans c,f.ev.trans ?_⟩;show r.length+(Qc++[e]).length=(e::r).length+Qc.length;simp only[aF,bG,fS];omega
theorem CE(S:Jo):Dk S S.due:=CC S.ev S.dv S.Qc
theorem ri(S:Jo)(i:Int):Dk S (S.begin i):=by
 unfold Jo.begin;split
 ·exact CE S
 ·exact Dk.refl S
theorem rj {S:Jo}(v:Vk S.dv D):Dk S { S with dv:=D }:=⟨v.1,v.2.1,v.2.2,rfl⟩
theorem Y2(D:Dv)(i:Int)(x:List EV):Vk D (D.append i x).1:=by
 unfold Dv.append
 repeat' split
 all_goals exact⟨rfl,rfl,rfl⟩
theorem Y'(D:Dv)(i:Int):Vk D (D.reset i).1:=by
 unfold Dv.reset
 repeat' split
 all_goals exact⟨rfl,rfl,rfl⟩
theorem Y_(D:Dv)(i:Int):Vk D (D.finish i).1:=by
 unfold Dv.finish
 repeat' split
 all_goals exact⟨rfl,rfl,rfl⟩
theorem ZA(D:Dv):Vk D D.flush.1:=by
 unfold Dv.flush;split<;>exact⟨rfl,rfl,rfl⟩
theorem ZB(S:Jo)(i:Int)(x:List EV):Dk S (S.append i x).1:=(ri S i).trans (rj (S:=S.begin i) (Y2 _ i x))
theorem ZC(S:Jo)(i:Int):Dk S (S.reset i).1:=(ri S i).trans (rj (S:=S.begin i) (Y' _ i))
theorem ZD(S:Jo)(i:Int):Dk S (S.finish i).1:=(ri S i).trans (rj (S:=S.begin i) (Y_ _ i))
theorem tO(S:Jo):Dk S S.flush.1:=(CE S).trans (rj (S:=S.due) (ZA _))
structure ZE(disp:Nat->Option FT)(K:Nat)(h:Ab)(m:Nat)(S:Mi)(F:Nat->Prop)(D V:Nat):Prop where
 D4:∀k:EV->Ab->R,Am (Bu K (.ptr m 0) h) k=k (.ptr D 0) h
 Br5:Bu K (.ptr m 0) h.lift=some (.ptr D 0,h.lift)
 table:Ok (Gj K (.ptr m 0) h.lift) fun v h'=>v=Uh/\Ext h.lift h'
 device:∀k:EV->Ab->R,Am (D7 K (.ptr D 0) h) k=k (.ptr V 0) h
 state:∀(i:Int) (k:EV->Ab->R),Am (J7 K (.ptr V 0) (I i) h) k=k (I (if S.dr.dv.has i=true then(S.dr.dv.zs i.toNat).st else 4)) h
 reset:∀{d:Nat},14<=d->∀i:Int,0<(S.dr.begin i).dv.size->Ok (Ag TT disp K d false 133 [.ptr D 0,I i] h) fun v h'=>v=I (S.dr.reset i).2/\Db h' m { S with dr:=(S.dr.reset i).1 } F/\Kf F h h'/\HB h'
 finish:∀{d:Nat},14<=d->∀i:Int,Ok (Ag TT disp K d false 189 [.ptr D 0,I i] h) fun v h'=>v=I (S.dr.finish i).2/\Db h' m { S with dr:=(S.dr.finish i).1 } F/\Kf F h h'/\HB h'
 flush:∀{d:Nat},14<=d->Ok (Ag TT disp K d false 98 [.ptr D 0] h) fun v h'=>v=I S.dr.flush.2/\Db h' m { S with dr:=S.dr.flush.1 } F/\Kf F h h'/\HB h'
 append:∀{d:Nat},14<=d->∀(z:Int) {x:List EV},x.length=64->U8 x->∀{i b:Nat} {s:DX} {k:EV->Ab->DX->R} {Q:EV->Ab->Prop},Abu b s=true->loose b s.nw = []->(∀w,Se b w s.Cw=true) ->
  (∀h' s',Db h' m { S with dr:=(S.dr.append z x).1 } F->Kf F h h'->HB h'->Ok (k (.tuple [I (S.dr.append z x).2.1,I (S.dr.append z x).2.2]) h' s') Q)->Ok (Ev.Ld i b s h (fun h=>Ag TT disp K d false 187 [.ptr D 0,I z,.agg x] h) k) Q
theorem mX(A:Bv disp)(hK:10000<K){S:Mi}(M:Db h m S F)(hb:HB h):∃D V,ZE disp K h m S F D V:=by
 obtain⟨lt,D,p,bl,ql,np,q,c,G,a⟩:=M.s;obtain⟨V,M',qc,qh,cs,hs,ms,F',b⟩:=a.drv.Ou;have due:ma disp K S.dr:=rn A (by omega) S.dr;have J:=a.H2.ext (h':=h.lift) fun i o g=>by rw[Bx];exact g
 refine⟨D,V,⟨fun k=>by rw[Vd a.H2,Au],Vd J,CF J (C8 hb),fun k=>by rw[CG b,Au],fun i k=>by rw[ZF b.dev,Au],?_,?_,?_,?_⟩⟩
 ·intro d hd i hs
  refine(XZ A (by omega) hd due a.drv hb i hs).mono ?_;rintro _ h' ⟨rfl,s2,c2,f⟩;obtain⟨M2,u⟩:=M.drv hb a s2 c2;exact⟨rfl,M2,u,f⟩
 ·intro d hd i
  refine(CH A hd due a.drv hb i).mono ?_;rintro _ h' ⟨rfl,s2,c2,f⟩;obtain⟨M2,u⟩:=M.drv hb a s2 c2;exact⟨rfl,M2,u,f⟩
 ·intro d hd
  refine(CI A (by omega) hd due a.drv hb).mono ?_;rintro _ h' ⟨rfl,s2,c2,f⟩;obtain⟨M2,u⟩:=M.drv hb a s2 c2;exact⟨rfl,M2,u,f⟩
 ·intro d hd z x O hu i b' s k Q b0 b1 b2 U
  refine Ok.rq (S:=G) b0 b1 b2 (CJ (K:=K) A (by omega) (d:=d) hd due a.drv.lift (C8 hb) z O hu) (fun _ _ p=>p.2.2.1) ?_;rintro _ h6 W s' ⟨rfl,d6,_,E⟩ sm c7 _;obtain⟨M7,k7⟩:=M.drv hb a (d6.same sm) c7;exact U W s' M7 k7 (sm.hb E)
section
def arC(m:Nat)(cur Br:Nat->Int):List EV:=[.ptr m 0,I (cur 0),I (Br 0),I (cur 1),I (Br 1),I (cur 2),I (Br 2)]
section
variable (A:Bv disp)(hK:10000<K){S:Mi}(M:Db h m S F)(hb:HB h)(hA:h.get ar=some (.cells (arC m cur Br) 152))(fA:F ar){z:Int}
include A hK M hb hA
end
end
section
section
variable (A:Bv disp)(hK:10000<K){ll:Nat}{S:Mi}{es:List Me}(M:Db h m S F)(hb:HB h)(hA:h.get ar=some (.cells (arC m cur Br) 152))(fA:F ar)(hr:rtB S.g=true)(mp:Ob h b ml ll S.g es){z:Int}(hR:iH x y z es=true)(n0:0<=zn)(n1:zn<S.g.D*S.g.Z)
include A hK M hb hA fA hr mp hR n0 n1
end
end
section
def Lu(f:Nat->Int)(i:Nat)(v:Int):Nat->Int:=fun j=>if j=i then v else f j
theorem CK(hi:i<3):(arC m cur Br)[1+i*2+1]? = some (I (Br i)):=by
 rcases i with _|_|_|i<;>first|rfl|omega
theorem CM(hi:i<3):(arC m cur Br)[1+i*2]? = some (I (cur i)):=by
 rcases i with _|_|_|i<;>first|rfl|omega
theorem ZG(hi:i<3)(v:Int):(arC m cur Br).set (1+i*2+1) (I v)=arC m cur (Lu Br i v):=by
 rcases i with _|_|_|i<;>first|rfl|omega
theorem wP(hi:i<3)(v w:Int):Mv (arC m cur Br) (1+i*2) [I v,I w]=some (arC m (Lu cur i v) (Lu Br i w)):=by
 rcases i with _|_|_|i<;>first|rfl|omega
noncomputable def ru(S:Mi)(o:Int)(i:Nat):Int × Mi:=
 if ¬o = -1/\S.E6 o=false then(o,S)else match S.ps i with
 | []=>(-1,S)
 | z::r=>(z,{ S with ps:=upd S.ps i r })
section
variable (A:Bv disp)(hK:10000<K){S:Mi}(M:Db h m S F)(hb:HB h)(hA:h.get ar=some (.cells (arC m cur Br) 152))(fA:F ar)(hi:i<3)
include hK M hb
theorem ZH(hi:i<S.g.D.toNat)
 (O:∀h',(S.ps i = []->Db h' m S F->Kf F h h'->HB h'->Ok (k (.tuple [I 0,I 15]) h') Q)/\(∀z r,S.ps i=z::r->Db h' m { S with ps:=upd S.ps i r } F->Kf F h h'->HB h'->Ok (k (.tuple [I z,I 0]) h') Q)) :
 Ok (Am (Cs K (.ptr m 0) h) fun v h=>Am (Pb K v (I i) h) k) Q:=by
 obtain⟨lt,D,p,bl,ql,np,q,c,G,a⟩:=M.s;rw[Yl a.H2,Au];have u:=a.psz.nd;subst u;refine(wQ (K:=K) a.Gn hb a.psz (by omega) i).Am ?_;rintro _ h' ⟨c3,o,x,e,c_,rfl,V,W,alt⟩;obtain⟨U,cH⟩:=a.pO hb V W c3;have wf:∀{c_},(∀d,d<S.g.D.toNat->∀x∈c_ d,x∈S.ps d)->Mi.Wf { S with ps:=c_ }:=fun sub=>{ toWp:=⟨M.wf.sm,fun d hd x f=>M.wf.ps d hd x (sub d hd x f)⟩,op:=M.wf.op }
 rcases alt with⟨y,_⟩|⟨_,_,y,rfl,rfl,rfl⟩|⟨_,_,rfl,r,y,rfl⟩
 ·omega
 ·obtain⟨E,J⟩:=M.made (R9.mono (H:=Out F h) ⟨fun i hi=>aN hi.1 cH.next,D,p,bl,ql,_,q,c,G,U⟩ (fun _=>.inl) (Bk.lt lt cH.next)) cH (wf fun d hd x f=>f)
  exact(O h').1 y E J o
 ·have y:S.ps i=x::r:=y
  obtain⟨E,J⟩:=M.made (R9.mono (H:=Out F h) ⟨fun i hi=>aN hi.1 cH.next,D,p,bl,ql,_,q,c,G,U⟩ (fun _=>.inl) (Bk.lt lt cH.next)) cH (wf fun d hd x' f=>by
   unfold upd at f;split at f
   ·rename_i e
    have e:d=i:=e;subst e;rw[y];exact aU _ f
   ·exact f)
  exact(O h').2 x r y E J o
include hA fA hi
theorem ZI(V:Rng (Br i)):Ok (Rq K (.ptr ar 0) (I i) h) fun v h'=>v=I (ru S (Br i) i).1/\Db h' m (ru S (Br i) i).2 F/\h'.get ar=some (.cells (arC m cur (Lu Br i (-1))) 152)/\Av (fun j=>¬F j\/j=ar) h h'/\HB h':=by
 have W:=hb _ _ hA;have sm:=M.wf.sm;have:=sm.d0;simp only[Rq,Aa];unfold I;rw[Xi hi]
 try simp only[Aa]
 rw[Ai hA rfl (CK hi),Xi hi]
 try simp only[Aa]
 refine Ok.gT hA rfl rfl (by show _<7;omega) ?_;rw[show(arC m cur Br).set (1+i*2+1) (.int .i64 (-1))=arC m cur (Lu Br i (-1))from ZG hi (-1)];have c1:Av (fun j=>j=ar) h (h.put ar (.cells (arC m cur (Lu Br i (-1))) 152)):=(Av.refl (S:=fun j=>j=ar) h).Ar (.inl rfl) W _;have f:(h.put ar (.cells (arC m cur (Lu Br i (-1))) 152)).get ar=some (.cells (arC m cur (Lu Br i (-1))) 152):=Ae _ _ _;generalize h.put ar (.cells (arC m cur (Lu Br i (-1))) 152)=h1 at c1 f⊢;have a:=c1.hb hb;have J:=M.iI c1 fun j hj _=>hj▸fA
 have o:Av (fun j=>¬F j\/j=ar) h h1:=c1.mono fun j hj=>.inr hj
 have take:∀h1,Db h1 m S F->HB h1->h1.get ar=some (.cells (arC m cur (Lu Br i (-1))) 152)->Av (fun j=>¬F j\/j=ar) h h1->Ok (S8 K (.ptr ar 0) (.int .i64 (i:Int)) h1) fun v h'=>v=I (match S.ps i with | []=>(-1,S)|z::r=>(z,{ S with ps:=upd S.ps i r }):Int × Mi).1/\Db h' m (match S.ps i with | []=>(-1,S)|z::r=>(z,{ S with ps:=upd S.ps i r }):Int × Mi).2 F/\h'.get ar=some (.cells (arC m cur (Lu Br i (-1))) 152)/\Av (fun j=>¬F j\/j=ar) h h'/\HB h':=by
  intro h1 J a f o;simp only[S8,Aa];rw[Ai f rfl (v:=.ptr m 0) rfl];refine ZH hK J a (i:=i) (by omega) fun h'=>⟨fun e M2 O p=>?_,fun z r e M2 O p=>?_⟩
  ·rw[e]
   simp only[Aa,I,Ac];exact .ret ⟨rfl,M2,O.at a f fA,o.trans (O.mono fun j hj=>.inl hj),p⟩
  ·rw[e]
   simp only[Aa,I,Ac,aB,aA,CN];exact .ret ⟨rfl,M2,O.at a f fA,o.trans (O.mono fun j hj=>.inl hj),p⟩
 simp only[I,Ac];unfold ru;by_cases u:Br i = -1
 ·rw[aG (fun y=>y.1 u)]
  simp only[u,aB,aA,Aa,Ac,N7];exact take _ J a f o
 ·simp only[u,aR,aC,Aa,Ac,hH]
  rw[Ai f rfl (v:=.ptr m 0) rfl];refine(Jq (K:=K) J.s a V).Am ?_;rintro _ h2 ⟨rfl,E⟩;have p:=E.hb a;cases U:S.E6 (Br i)with
  | true=>
   rw[aG (by simp)];simp only[Aa,N7];exact take _ ((J.ext a E).less fun j (hj:F j)=>Or.inl hj) p (E.at a f) (o.trans (Ext.to E))
  | false=>
   rw[aI rfl];simp only[Aa,N7];exact .ret ⟨rfl,(J.ext a E).less fun j (hj:F j)=>Or.inl hj,E.at a f,o.trans (Ext.to E),p⟩
end
end
structure Mk(S T:Mi):Prop where
 g:T.g=S.g
 dr:Dk S.dr T.dr
theorem Mk.refl(S:Mi):Mk S S:=⟨rfl,Dk.refl _⟩
theorem Mk.trans {S T U:Mi}(a:Mk S T)(b:Mk T U):Mk S U:=⟨b.g.trans a.g,a.dr.trans b.dr⟩
theorem CO(S:Mi)(z u:Int):Mk S (S.leave z u).1:=by
 refine⟨(wT S z u).1,?_⟩;unfold Mi.leave;split
 ·exact Dk.refl _
 ·split
  ·exact Dk.refl _
  ·exact ZD _ _
theorem ZJ(S:Mi):Mk S S.close.1:=by
 unfold Mi.close;exact((⟨rfl,Dk.refl _⟩:Mk S { S with a:=-1,b:=-1,u:=0 }).trans (CO _ _ _)).trans (CO _ _ _)
theorem CP(S:Mi)(z:Int):Mk S (S.Ci z).1:=by
 unfold Mi.Ci;split
 ·exact Mk.refl _
 ·split
  ·exact Mk.refl _
  ·split
   ·exact⟨rfl,Dk.refl _⟩
   ·exact(⟨rfl,Dk.refl _⟩:Mk S (S.mark z)).trans (ZJ _)
theorem ZK(S:Mi):Mk S S.ready.1:=by
 refine⟨(CQ S).1,?_⟩;unfold Mi.ready;split
 ·exact Dk.refl _
 ·split
  ·exact tO _
  ·split<;>exact tO _
theorem wU(S:Mi)(e:En)(Al Bf Ao seq:Int):Mk S (S.put e Al Bf Ao seq).1:=by
 refine⟨(wV S e Al Bf Ao seq).1,?_⟩;unfold Mi.put;split
 ·exact Dk.refl _
 ·exact ZB _ _ _
theorem ZL(S:Mi)(e:En)(Ao seq:Int):Mk S (S.both e Ao seq).1:=by
 unfold Mi.both;split
 ·exact wU _ _ _ _ _ _
 ·exact(wU _ _ _ _ _ _).trans (wU _ _ _ _ _ _)
theorem CR(S:Mi):Mk S S.kR:=⟨rfl,Dk.refl _⟩
theorem ZM(B:Mi × Int × Int):Mk B.1 (Mi.Om B):=by
 unfold Mi.Om;split
 ·exact CR _
 ·exact Mk.refl _
theorem CS(e:En)(Ao seq:Int):∀(n:Nat) (S:Mi),Mk S (Mi.Si e Ao seq n S).1
 | 0,S=>Mk.refl S
 | n+1,S=>by
  have a:=ZK S;have b:=a.trans (ZL S.ready.1 e Ao seq);have c:=(b.trans (ZM _)).trans (CP _ (S.ready.1.both e Ao seq).2.1);unfold Mi.Si;split
  ·exact a
  ·split
   ·exact b.trans (CR _)
   ·split
    ·exact b
    ·split
     ·exact c
     ·exact c.trans (CS e Ao seq n _)
theorem CT(S:Mi)(e:En)(Ao seq:Int):Mk S (S.place e Ao seq).1:=by
 unfold Mi.place;split
 ·exact Mk.refl _
 ·exact CS _ _ _ _ _
theorem ZN(D:Dv)(i:Int):Vk D (D.begin i):=by
 unfold Dv.begin;split<;>exact⟨rfl,rfl,rfl⟩
theorem CU(S:Jo)(i off:Int):Dk S (S.read i off).1:=(ri S i).trans (rj (S:=S.begin i) (ZN _ i))
theorem rv {S:Mi}{D:Jo}(d:Dk S.dr D):Mk S { S with dr:=D }:=⟨rfl,d⟩
theorem pP(S:Mi)(x:Me)(Al Bf:Int):Mk S (S.Ds x Al Bf).1:=by
 have r:=rv (CU S.dr Al x.off);unfold Mi.Ds;split
 ·exact r
 ·split
  ·exact r
  ·split
   ·exact r.trans (CP _ _)
   ·exact r
theorem ZO(S:Mi)(x:Me):Mk S (S.read x).1:=by
 unfold Mi.read;split
 ·exact Mk.refl _
 ·split
  ·exact pP _ _ _ _
  ·split<;>exact(pP _ _ _ _).trans (pP _ _ _ _)
theorem CV(S:Mi)(x:Me):Mk S (S.check x).1:=by
 unfold Mi.check;split
 ·exact Mk.refl _
 ·split
  ·exact pP _ _ _ _
  ·have c:=(pP S x x.Al x.Bf).trans (pP (S.Ds x x.Al x.Bf).1 x x.Bf x.Al)
   unfold Mi.rA;split
   ·exact c
   ·split<;>exact c
theorem ZP:TT.eqs 23=some [0,0,0,0,0,0]:=by kernel_rfl
theorem CW(a:Int):iN a a=true:=by rw[<-wW,tP];simp
theorem ZQ(g:Gm)(k:EV->R):J5 iX (bin TT .neq 23) (gV g) (gV g) k=k (.bool false):=by
 have h1:jD TT 23 (gV g) (gV g)=some true:=by
  unfold jD gV;rw[ZP];simp only[gL,shaped,I];rw[show Nat.beq 0 0=true from rfl];simp only[Ak,E8,jO,show Nat.beq (Pc .i64) (Pc .i64)=true from rfl,CW]
 show oB k (match jD TT 23 (gV g) (gV g)with|some b=>some (EV.bool (Bb b false true))|none=>none)=_;rw[h1];rfl
structure Bio(S:Mi)(cur Br:Nat->Int):Prop where
 cur:∀i,i<3->cur i = -1\/Bp S.g (cur i)=i
 Br:∀i,i<3->Br i = -1\/Bp S.g (Br i)=i
section
theorem Bio.of {S T:Mi}(a:Bio S cur Br)(g:T.g=S.g):Bio T cur Br:=⟨by rw[g];exact a.cur,by rw[g];exact a.Br⟩
section
variable (A:Bv disp)(hK:10000<K){ll:Nat}{es:List Me}(fA:F ar)(fb:F b/\F ml/\F ll/\b≠ar/\ml≠ar/\ll≠ar){z:Int}(hR:iH x y z es=true)(hi:i<3)
include A hK fA fb hR hi
end
end
section
section
variable (A:Bv disp)(hK:10000<K){ll:Nat}{es:List Me}(fA:F ar)(fb:F b/\F ml/\F ll/\b≠ar/\ml≠ar/\ll≠ar){z:Int}
include A hK fA fb
end
theorem CX(hi:i<3)(h:Ab):rB K (I i) h=some (.bool true,h):=by
 simp only[rB,CY,I,Ac];have e1:decide (0<=(i:Int))=true:=by simp
 have e2:decide ((i:Int)<3)=true:=by simp;omega
 simp only[e1,e2,Aa,Ac]
section
variable{S:Mi}(M:Db h m S F)(hb:HB h)(hA:h.get ar=some (.cells (arC m cur Br) 152))
include M hb hA
theorem CZ{z:Int}(a:z = -1\/Bp S.g z=i):Ok (Qh K (.ptr ar 0) (I i) (I z) h) fun v h'=>v=.bool true/\Ext h h':=by
 simp only[Qh,I,Ac];have sm:=M.wf.sm;by_cases h1:z = -1
 ·simp only[h1,aC,Aa,Ac,Vm]
  exact .ret ⟨rfl,Av.refl _⟩
 ·simp only[h1,aA,Aa,Ac,Vm]
  rw[Ai hA rfl (v:=.ptr m 0) rfl];refine(Pe (K:=K) M hb).Am ?_;rintro _ h2 ⟨rfl,f⟩;have hd:=a.resolve_left h1;refine(J1 (K:=K) sm z (Yf sm (by omega)) h2).Am ?_;rintro _ h3 ⟨rfl,o⟩;simp only[I,Ac,hd,aC,Aa];exact .ret ⟨rfl,f.trans o⟩
theorem ZR(fA:F ar)(hi:i<3){v w:Int}(J:v = -1\/Bp S.g v=i)(hw:w = -1\/Bp S.g w=i)(O:¬v=w):Ok (Sv K (.ptr ar 0) (I i) (I v) (I w) h) fun r h'=>r=I 0/\Db h' m S F/\h'.get ar=some (.cells (arC m (Lu cur i v) (Lu Br i w)) 152)/\Av (fun j=>j=ar) h h'/\HB h':=by
 simp only[Sv,CX hi,Aa,Ac];refine(CZ (K:=K) M hb hA J).Am ?_;rintro _ h2 ⟨rfl,p⟩;have a:=p.hb hb;have M2:=(M.ext hb p).less fun j (hj:F j)=>Or.inl hj
 simp only[Aa,Ac,C_];refine(CZ (K:=K) M2 a (p.at hb hA) hw).Am ?_;rintro _ h3 ⟨rfl,u⟩;have f:=u.hb a;have x:Ext h h3:=p.trans u;have U:=(M.ext hb x).less fun j (hj:F j)=>Or.inl hj
 have o:=x.at hb hA;have E:=f _ _ o;simp only[Aa,Ac,DC,I,O,aA,DD,DE,DF,DG];rw[Ax (l:=[I v,I w]) rfl]
 try simp only[Aa]
 rw[Xi hi];refine Ok.st (arC m (Lu cur i v) (Lu Br i w)) o rfl rfl (wP hi v w) ?_;have c:Av (fun j=>j=ar) h3 (h3.put ar (.cells (arC m (Lu cur i v) (Lu Br i w)) 152)):=(Av.refl (S:=fun j=>j=ar) h3).Ar (.inl rfl) E _;exact .ret ⟨rfl,U.iI c fun j hj _=>hj▸fA,Ae _ _ _,(Ext.to x).trans c,f.put E _⟩
end
end
section
structure Co where
 S:Mi
 cur:Nat->Int
 Br:Nat->Int
 es:List Me
 gen:Int
 ep:Int
 nx:Int
 st:Bool
structure Cb where
 c:Nat
 ar:Nat
 m:Nat
 b:Nat
 ml:Nat
 ll:Nat
def Cb.own(B:Cb)(i:Nat):Prop:=i=B.c\/i=B.ar\/i=B.b\/i=B.ml\/i=B.ll
def Cb.fr(B:Cb)(F:Nat->Prop)(i:Nat):Prop:=F i\/B.own i
def Co.cells(B:Cb)(X:Co):List EV:=[.ptr B.m 0,.ptr B.ar 0,.ptr B.b 0,I X.gen,I X.ep,I X.nx,.bool X.st]
structure Co.Wf(X:Co):Prop where
 rt:rtB X.S.g=true
 an:Bio X.S X.cur X.Br
 sz:0<X.S.dr.dv.size
structure C0(h:Ab)(B:Cb)(X:Co)(F:Nat->Prop):Prop where
 M:Db h B.m X.S (B.fr F)
 core:h.get B.c=some (.cells (X.cells B) 109)
 ar:h.get B.ar=some (.cells (arC B.m X.cur X.Br) 152)
 map:Ob h B.b B.ml B.ll X.S.g X.es
 wf:X.Wf
 out:∀i,F i->¬B.own i
 hb:HB h
def Ck(X Y:Co):Prop:=Mk X.S Y.S
theorem Ck.refl(X:Co):Ck X X:=Mk.refl _
theorem Ck.trans {X Y Z:Co}(a:Ck X Y)(b:Ck Y Z):Ck X Z:=Mk.trans a b
structure Ee(h h':Ab)(B:Cb)(X:Co)(F:Nat->Prop)(Y:Co):Prop where
 C:C0 h' B Y F
 k:Kf F h h'
 ck:Ck X Y
section
variable{B:Cb}{X Y:Co}{F':Nat->Prop}
theorem C0.ne(C:C0 h B X F):B.c≠B.ar/\B.c≠B.b/\B.c≠B.ml/\B.c≠B.ll/\B.ar≠B.b/\B.ar≠B.ml/\B.ar≠B.ll/\B.b≠B.ml/\B.b≠B.ll/\B.ml≠B.ll:=
 ⟨Az C.core C.ar (by simp),Az C.core C.map.map (by simp),Az C.core C.map.row (by simp),Az C.core C.map.live (by simp),Az C.ar C.map.map (by simp),Az C.ar C.map.row (by simp),Az C.ar C.map.live (by simp),
  Az C.map.map C.map.row (by simp),Az C.map.map C.map.live (by simp),Az C.map.row C.map.live (by simp)⟩
theorem C0.sm(C:C0 h B X F):Sm X.S.g:=C.M.wf.sm
theorem Ee.refl(C:C0 h B X F):Ee h h B X F X:=⟨C,Av.refl _,Ck.refl _⟩
theorem Ee.trans {h2 h3:Ab}{X Y Z:Co}(a:Ee h1 h2 B X F Y)(b:Ee h2 h3 B Y F Z):Ee h1 h3 B X F Z:=⟨b.C,a.k.trans b.k,a.ck.trans b.ck⟩
theorem Ee.hb(a:Ee h h' B X F Y):HB h':=a.C.hb
theorem Db.kp{S:Mi}(M:Db h m S F)(k:Kp T h h'):Db h' m S (Bk F h h'):=by
 refine⟨(M.s.frame k.chg.next fun i hi=>k.same i hi.1).mono (fun i hi=>⟨aN hi.1 k.chg.next,fun y=>?_⟩) fun i hi=>hi.1,Bk.lt M.lt k.chg.next,M.wf⟩;rcases y with y|y
 ·exact hi.2 y
 ·have:=hi.1;omega
theorem C0.kp(C:C0 h B X F)(k:Kp T h h'):C0 h' B X (Bk F h h'):=by
 refine⟨(C.M.kp k).less fun i hi=>?_,k.at C.hb C.core,k.at C.hb C.ar,C.map.ext fun i o g=>k.at C.hb g,C.wf,fun i hi=>?_,k.chg.hb C.hb⟩
 ·rcases hi with(hi|hi)|hi
  ·exact .inl (.inl hi)
  ·exact .inr hi
  ·exact .inl (.inr hi)
 ·rcases hi with hi|hi
  ·exact C.out i hi
  ·intro y
   have a:=C.hb _ _ C.core;have f:=C.hb _ _ C.ar;have p:=C.hb _ _ C.map.map;have u:=C.hb _ _ C.map.row;have E:=C.hb _ _ C.map.live;rcases y with y|y|y|y|y<;>omega
theorem C0.less(C:C0 h B X F)(s:∀i,F' i->F i):C0 h B X F':=
 ⟨C.M.less fun i hi=>hi.imp (s i) id,C.core,C.ar,C.map,C.wf,fun i hi=>C.out i (s i hi),C.hb⟩
theorem C0.ext(C:C0 h B X F)(x:Ext h h'):C0 h' B X (Bk F h h'):=C.kp (T:=fun _=>False) (Ext.kp x)
theorem C0.Y8(C:C0 h B X F)(x:Ext h h'):Ee h h' B X F X:=⟨(C.ext x).less fun _=>.inl,Ext.kf x,Ck.refl _⟩
theorem C0.ZS(C:C0 h B X F)(k:Kp T h h')(t:∀i,T i->¬F i):Ee h h' B X F X:=⟨(C.kp k).less fun _=>.inl,k.chg.mono t,Ck.refl _⟩
theorem Co.Wf.H2(w:X.Wf)(mk:Mk X.S S'):({ X with S:=S' }:Co).Wf:=⟨by show rtB S'.g=true;rw[mk.g];exact w.rt,w.an.of mk.g,by show 0<S'.dr.dv.size;rw[mk.dr.size];exact w.sz⟩
theorem C0.H2(C:C0 h B X F)(f:Db h' B.m S' (B.fr F))(k:Kf (B.fr F) h h')(a:HB h')(mk:Mk X.S S'):Ee h h' B X F { X with S:=S' }:=by
 have g:S'.g=X.S.g:=mk.g;exact⟨⟨f,k.at C.hb C.core (.inr (.inl rfl)),k.at C.hb C.ar (.inr (.inr (.inl rfl))),by
  show Ob h' B.b B.ml B.ll S'.g X.es;rw[g];exact C.map.frame (k.get _ (C.hb _ _ C.map.map) fun y=>y (.inr (.inr (.inr (.inl rfl))))) (k.get _ (C.hb _ _ C.map.row) fun y=>y (.inr (.inr (.inr (.inr (.inl rfl)))))) (k.get _ (C.hb _ _ C.map.live) fun y=>y (.inr (.inr (.inr (.inr (.inr rfl)))))),
  C.wf.H2 mk,C.out,a⟩,k.less fun _=>.inl,mk⟩
theorem C0.ZT(C:C0 h B X F){a f:Nat->Int}(p:Db h' B.m S' (B.fr F))(hA:h'.get B.ar=some (.cells (arC B.m a f) 152))(c:Av (fun j=>¬B.fr F j\/j=B.ar) h h')(o:HB h')(mk:Mk X.S S')(an:Bio S' a f):
 Ee h h' B X F { X with S:=S',cur:=a,Br:=f }:=by
 have g:S'.g=X.S.g:=mk.g;obtain⟨n1,V,n3,n4,u,E,J,W,n9,O⟩:=C.ne;have kp:∀i,B.own i->i≠B.ar->¬(¬B.fr F i\/i=B.ar):=fun i hi U y=>y.elim (fun y=>y (.inr hi)) U
 exact⟨⟨p,c.at C.hb C.core (kp _ (.inl rfl) n1),hA,by
  show Ob h' B.b B.ml B.ll S'.g X.es;rw[g];exact C.map.frame (c.get _ (C.hb _ _ C.map.map) (kp _ (.inr (.inr (.inl rfl))) u.symm)) (c.get _ (C.hb _ _ C.map.row) (kp _ (.inr (.inr (.inr (.inl rfl)))) E.symm)) (c.get _ (C.hb _ _ C.map.live) (kp _ (.inr (.inr (.inr (.inr rfl)))) J.symm)),
  ⟨by show rtB S'.g=true;rw[g];exact C.wf.rt,an,by show 0<S'.dr.dv.size;rw[mk.dr.size];exact C.wf.sz⟩,C.out,o⟩,
  c.mono fun i hi y=>hi.elim (fun w=>w (.inl y)) fun w=>C.out i y (w▸.inr (.inl rfl)),mk⟩
theorem C0.wX(C:C0 h B X F){a:List Me}(mp:Ob h' B.b B.ml B.ll X.S.g a)(c:Av (fun i=>i=B.ml\/i=B.ll) h h')(f:HB h'):Ee h h' B X F { X with es:=a }:=by
 obtain⟨n1,J,n3,n4,O,p,u,U,V,E⟩:=C.ne;have o:∀i,i=B.ml\/i=B.ll->B.own i:=fun i hi=>hi.elim (fun y=>.inr (.inr (.inr (.inl y)))) fun y=>.inr (.inr (.inr (.inr y)))
 exact⟨⟨C.M.iI c fun i hi _=>.inr (o i hi),c.at C.hb C.core fun y=>y.elim n3 n4,c.at C.hb C.ar fun y=>y.elim p u,mp,⟨C.wf.rt,C.wf.an,C.wf.sz⟩,C.out,f⟩,c.mono fun i hi y=>C.out i y (o i hi),Mk.refl _⟩
theorem C0.wY(C:C0 h B X F)(g e n:Int)(s:Bool):Ee h (h.put B.c (.cells (({ X with gen:=g,ep:=e,nx:=n,st:=s }:Co).cells B) 109)) B X F { X with gen:=g,ep:=e,nx:=n,st:=s }:=by
 obtain⟨n1,a,n3,n4,o,p,u,E,J,f⟩:=C.ne;have l:=C.hb _ _ C.core;have c:Av (fun i=>i=B.c) h (h.put B.c (.cells (({ X with gen:=g,ep:=e,nx:=n,st:=s }:Co).cells B) 109)):=(Av.refl (S:=fun i=>i=B.c) h).Ar (.inl rfl) l _;exact⟨⟨C.M.iI c fun i hi _=>.inr (.inl hi),Ae _ _ _,by rw[Af _ n1];exact C.ar,C.map.frame (Af _ a) (Af _ n3) (Af _ n4),⟨C.wf.rt,C.wf.an,C.wf.sz⟩,C.out,C.hb.put l _⟩,c.mono fun i hi y=>C.out i y (.inl hi),Mk.refl _⟩
theorem C0.iI(C:C0 h B X F)(c:Av T h h')(t:∀i,T i->i<h.next->F i)(a:HB h'):C0 h' B X F:=by
 have no:∀i,B.own i->i<h.next->¬T i:=fun i hi f y=>C.out i (t i y f) hi
 have l1:=C.hb _ _ C.core;have E:=C.hb _ _ C.ar;have o:=C.hb _ _ C.map.map;have p:=C.hb _ _ C.map.row;have u:=C.hb _ _ C.map.live;exact⟨C.M.iI c fun i hi f=>.inl (t i hi f),c.at C.hb C.core (no _ (.inl rfl) l1),c.at C.hb C.ar (no _ (.inr (.inl rfl)) E),
  C.map.frame (c.get _ o (no _ (.inr (.inr (.inl rfl))) o)) (c.get _ p (no _ (.inr (.inr (.inr (.inl rfl)))) p)) (c.get _ u (no _ (.inr (.inr (.inr (.inr rfl)))) u)),C.wf,C.out,a⟩
end
section
variable{B:Cb}{X:Co}(C:C0 h B X F)
include C
theorem C0.ic(k:EV->R):Hq (.ptr B.c 0) h k=k (.ptr B.m 0):=Ai C.core rfl rfl
theorem C0.Hb(k:EV->R):Hq (.ptr B.c 1) h k=k (.ptr B.ar 0):=Ai C.core rfl rfl
theorem C0.ji(k:EV->R):Hq (.ptr B.c 2) h k=k (.ptr B.b 0):=Ai C.core rfl rfl
theorem C0.DH(k:EV->R):Hq (.ptr B.c 3) h k=k (I X.gen):=Ai C.core rfl rfl
theorem C0.wZ(k:EV->R):Hq (.ptr B.c 4) h k=k (I X.ep):=Ai C.core rfl rfl
theorem C0.kC(k:EV->R):Hq (.ptr B.c 5) h k=k (I X.nx):=Ai C.core rfl rfl
theorem C0.DI(k:EV->R):Hq (.ptr B.c 6) h k=k (.bool X.st):=Ai C.core rfl rfl
end
end
variable {X Y:Co}{B:Cb}
section
theorem ZU:(Fk TT 55 0).2.1 = [8]:=by kernel_rfl
theorem ZV {a b:EV}(hj:j<2)(k:EV->R):kj 2 1 false 1 (.agg [a,b]) (I j) k=k (if j=0 then a else b):=by
 rcases j with _|_|j<;>first|rfl|omega
theorem ZW {a:Nat->Int}{o:Nat->Int}(hi:i<3)(k:EV->R):kj 3 2 true 2 (.agg [I (a 0),I (o 0),I (a 1),I (o 1),I (a 2),I (o 2)]) (I i) k=k (.agg [I (a i),I (o i)]):=by
 rcases i with _|_|_|i<;>first|rfl|omega
def Tn(x z:Int):Bool:=decide (¬x = -1)&&decide (x=z)
theorem ZX {z:Int}(h:¬x=z):Tn x z=false:=by unfold Tn;rw[aJ h,dI]
theorem ZY {z:Int}(h:¬x = -1)(e:x=z):Tn x z=true:=by unfold Tn;rw[aM h,aM e];rfl
def mY(cur Br:Nat->Int)(z:Int):Nat->Bool
 | 0=>false
 | i+1=>mY cur Br z i||(Tn (cur i) z||Tn (Br i) z)
def Wy(cur Br:Nat->Int)(z:Int):Bool:=mY cur Br z 3
theorem DJ{z:Int}(hi:i<=3)(h:mY cur Br z i=true):Wy cur Br z=true:=by
 have st:∀i,mY cur Br z i=true->mY cur Br z (i+1)=true:=fun i h=>by
  show(mY cur Br z i||(Tn (cur i) z||Tn (Br i) z))=true;rw[h];rfl
 unfold Wy;rcases i with _|_|_|_|i
 ·cases h
 ·exact st _ (st _ h)
 ·exact st _ h
 ·exact h
 ·omega
structure mc(h:Ab)(l0 d0:Nat)(tm:Ba)(b3 b4:Nat)(z:Int)(found:Bool):Prop where
 lp:h.get l0=some (Aw TT 55 12 0 tm (if found then .done else .ready) (if found then some .ret else none) d0)
 c3:h.get b3=some (.cells [I z] 3)
 c4:h.get b4=some (.cells [.bool found] 4)
 hb:HB h
section
variable (H:Bv disp){d0 b3 b4:Nat}{z:Int}(t3:tmp tm 3=.ptr b3 0)(t4:tmp tm 4=.ptr b4 0)
include H t3 t4
theorem ZZ(he:1<=e)(W:mc h l0 d0 tm b3 b4 z false):
 ∃h',Ag TT disp K (e+1) true l0 [I x] h=some (.bool (decide (¬x=z)),h')/\mc h' l0 d0 tm b3 b4 z (decide (x=z))/\Av (fun j=>j=l0\/j=b4) h h':=by
 have U:=W.lp;simp only[aX,ak]at U;have p:=U;have g3:=W.c3;have g4:=W.c4;have hb:=W.hb;unfold Aw at p;rw[ZU]at p;rw[Z' H he tm h (I x) p,t3,t4];have V:=hb _ _ U;have ag:=hb _ _ g4;have u:l0≠b3:=Az U g3 (by simp[Aw]);have a:l0≠b4:=Az U g4 (by simp[Aw]);have ad:b3≠b4:=Az g3 g4 (by simp[I]);simp only[DK,Z8 U,Zb,dr];have f:(h.put l0 (Aw TT 55 12 0 tm .busy none d0)).get b3=some (.cells [I z] 3):=by rw[Af _ u];exact g3
 have E:(h.put l0 (Aw TT 55 12 0 tm .busy none d0)).get b4=some (.cells [.bool false] 4):=by rw[Af _ a];exact g4
 have J:(h.put l0 (Aw TT 55 12 0 tm .busy none d0)).get l0=some (Aw TT 55 12 0 tm .busy none d0):=Ae _ _ _;have x1:Av (fun j=>j=l0\/j=b4) h (h.put l0 (Aw TT 55 12 0 tm .busy none d0)):=(Av.refl h).Ar (.inl (.inl rfl)) V _;have O:HB (h.put l0 (Aw TT 55 12 0 tm .busy none d0)):=hb.put V _;have n1:(h.put l0 (Aw TT 55 12 0 tm .busy none d0)).next=h.next:=rfl
 generalize h.put l0 (Aw TT 55 12 0 tm .busy none d0)=h1 at f E J x1 O n1⊢;simp only[Cw f rfl,Aa,I,Ac];by_cases hx:x=z
 ·simp only[hx,aC,Aa,aB,aA]
  rw[mV (o:=0) (n:=1) (v:=.bool true) (l':=[.bool true]) E rfl rfl rfl,Ri (by rw[Af _ (cY a)];exact J)];exact⟨_,rfl,⟨Ae _ _ _,by rw[Af _ u,Af _ (cY ad)];exact f,by rw[Af _ a];exact Ae _ _ _,(O.put (by omega) _).put (by rw[Ab.Qr];omega) _⟩,(x1.Ar (.inl (.inr rfl)) (by omega) _).Ar (.inl (.inl rfl)) (by rw[Ab.Qr];omega) _⟩
 ·simp only[hx,aA,Aa,aR,aC]
  rw[Ri J];exact⟨_,rfl,⟨Ae _ _ _,by rw[Af _ u];exact f,by rw[Af _ a];exact E,O.put (by omega) _⟩,x1.Ar (.inl (.inl rfl)) (by omega) _⟩
def rD(h:Ab)(l0 d0:Nat)(tm:Ba)(b3 b4:Nat)(z:Int)(f:Bool):EV->Ab->Prop:=fun _ h'=>mc h' l0 d0 tm b3 b4 z f/\Av (fun j=>j=l0\/j=b4) h h'
theorem Z_(he:2<=e){v10 v11:EV}{f:Bool}(J:Tn x z=true->f=true)(O:Tn y z=true->f=true)
 (hk:Tn x z=false->Tn y z=false->∀h,mc h l0 d0 tm b3 b4 z false->Av (fun j=>j=l0\/j=b4) h0 h->Ok (K1 (Ag TT disp K e false) (Ag TT disp K e true) K mR (.Vv l0) v10 v11 h) (rD h0 l0 d0 tm b3 b4 z f)) :
 ∀(m j:Nat) (h:Ab),2-j<m->j<=2->(1<=j->Tn x z=false)->(2<=j->Tn y z=false)->mc h l0 d0 tm b3 b4 z false->Av (fun j=>j=l0\/j=b4) h0 h ->
  Ok (Eu (Ag TT disp K e false) (Ag TT disp K e true) K mR m (.Vv l0) v10 v11 (.agg [I x,I y]) (I j) h) (rD h0 l0 d0 tm b3 b4 z f):=by
 intro m;induction m with
 | zero=>intro j h hm;omega
 | succ m ih=>
  intro j h hm hj jx jy U c0;rw[Eu];simp only[I,Ac];by_cases V:j<2
  ·have e3:decide ((j:Int)<2)=true:=by simp;omega
   simp only[e3,Aa,DL];have pv:=fun k=>ZV (a:=I x) (b:=I y) V k
   simp only[I]at pv;rw[pv];have go:∀v:Int,(Tn v z=true->f=true)->(Tn v z=false->(1<=j+1->Tn x z=false)/\(2<=j+1->Tn y z=false))->Ok (J5 iX (bin TT .neq 3) (.int .i64 v) (.int .i64 (-1)) fun o=>Bb (Er o true)
    (Am (T5 (Ag TT disp K e false) (Ag TT disp K e true) (.Vv l0) [.int .i64 v] h) fun W h=>jj W fun aa=>Ic (Ag TT disp K e false) (Ag TT disp K e true) K mR (Eu (Ag TT disp K e false) (Ag TT disp K e true) K mR m) (.Vv l0) v10 v11 (.agg [.int .i64 x,.int .i64 y]) (.int .i64 (j:Int)) o aa h)
    (Ic (Ag TT disp K e false) (Ag TT disp K e true) K mR (Eu (Ag TT disp K e false) (Ag TT disp K e true) K mR m) (.Vv l0) v10 v11 (.agg [.int .i64 x,.int .i64 y]) (.int .i64 (j:Int)) o (.tuple []) h)) (rD h0 l0 d0 tm b3 b4 z f):=by
    intro v ab E;have nx:Tn v z=false->∀h2,mc h2 l0 d0 tm b3 b4 z false->Av (fun j=>j=l0\/j=b4) h0 h2->Ok (Ut (Ag TT disp K e false) (Ag TT disp K e true) K mR (Eu (Ag TT disp K e false) (Ag TT disp K e true) K mR m) (.Vv l0) v10 v11 (.agg [.int .i64 x,.int .i64 y]) (.int .i64 (j:Int)) h2) (rD h0 l0 d0 tm b3 b4 z f):=by
     intro hp h2 p c2;simp only[Ut,Ac];rw[Cl,show((j:Nat):Int)+1=((j+1:Nat):Int) by omega];exact ih (j+1) h2 (by omega) (by omega) (E hp).1 (E hp).2 p c2
    simp only[Ac];by_cases h1:v = -1
    ·simp only[h1,aB,aA,Aa,Ac,Ic]
     exact nx (by unfold Tn;rw[aJ (fun y=>y h1),av]) h U c0
    ·have ad:=h1
     simp only[h1,aR,aC,Aa,Ac];obtain⟨e,rfl⟩:∃k,e=k+1:=⟨e-1,by omega⟩;obtain⟨h2,r1,p,c2⟩:=ZZ (K:=K) H t3 t4 (e:=e) (by omega) (x:=v) U;have hc:T5 (Ag TT disp K (e+1) false) (Ag TT disp K (e+1) true) (.Vv l0) [.int .i64 v] h=some (.bool (decide (¬v=z)),h2):=r1;rw[hc,Au];by_cases u:v=z
     ·have hf:=ab (ZY ad u)
      simp only[u,aC]at p;simp only[u,aB,aA,Aa,Ic];rw[hf];exact .ret ⟨p,c0.trans c2⟩
     ·have hp:=ZX u
      simp only[u,aA]at p;simp only[u,aR,aC,Aa,Ic];exact nx hp h2 p (c0.trans c2)
   rcases j with _|_|j
   ·exact go x J fun hp=>⟨fun _=>hp,fun y=>by omega⟩
   ·exact go y O fun hp=>⟨fun _=>jx (by omega),fun _=>hp⟩
   ·omega
  ·have:j=2:=by omega
   subst this;simp only[show decide (((2:Nat):Int)<2)=false from rfl,Aa];exact hk (jx (by omega)) (jy (by omega)) h U c0
theorem γ(hK:5<K)(he:2<=e):∀(m i:Nat) (h:Ab),3-i<m->i<=3->mY cur Br z i=false->mc h l0 d0 tm b3 b4 z false->Av (fun j=>j=l0\/j=b4) h0 h ->
 Ok (Gk (Ag TT disp K e false) (Ag TT disp K e true) K m (.Vv l0) (.agg [I (cur 0),I (Br 0),I (cur 1),I (Br 1),I (cur 2),I (Br 2)]) (I i) h) (rD h0 l0 d0 tm b3 b4 z (Wy cur Br z)):=by
 intro m;induction m with
 | zero=>intro i h hm;omega
 | succ m U=>
  intro i h hm hi p f c0;rw[Gk];unfold I;simp only[Ac];by_cases E:i<3
  ·have e3:decide ((i:Int)<3)=true:=by simp;omega
   simp only[e3,Aa,DM];have J:=fun k=>ZW (a:=cur) (o:=Br) E k
   simp only[I]at J;rw[J]
   try simp only[Aa]
   refine Ok.mk rfl rfl fun h2 u O _=>?_
   have V:mc h2 l0 d0 tm b3 b4 z false:=⟨u.at f.hb f.lp,u.at f.hb f.c3,u.at f.hb f.c4,u.hb f.hb⟩;rw[Ai O rfl (v:=I (cur i)) rfl,Ai O rfl (v:=I (Br i)) rfl,Ax (l:=[I (cur i),I (Br i)]) rfl];refine Z_ (K:=K) H t3 t4 he (fun hp=>DJ (i:=i+1) (by omega) (by show(_||(Tn (cur i) z||Tn (Br i) z))=true;rw[hp];simp)) (fun hp=>DJ (i:=i+1) (by omega) (by show(_||(Tn (cur i) z||Tn (Br i) z))=true;rw[hp];simp)) ?_ K 0 h2 (by omega) (by omega) (fun y=>by omega) (fun y=>by omega) V (c0.trans (Ext.to u));intro W py h3 I3 c3;simp only[K1,Ac];rw[Cl,show((i:Nat):Int)+1=((i+1:Nat):Int) by omega];exact U (i+1) h3 (by omega) (by omega) (by show(mY cur Br z i||(Tn (cur i) z||Tn (Br i) z))=false;rw[p,W,py];rfl) I3 c3
  ·have:i=3:=by omega
   subst this;simp only[show decide (((3:Nat):Int)<3)=false from rfl,Aa];rw[show Wy cur Br z=false from p];exact .ret ⟨f,c0⟩
end
section
variable (H:Bv disp)
include H
theorem DN(hd:5<=d)(hK:1000<K)(hA:h.get ar=some (.cells (arC m cur Br) 152))(hb:HB h)(z:Int):
 Ok (Ag TT disp K d false 55 [.ptr ar 0,I z] h) fun v h'=>v=.bool (Wy cur Br z)/\Ext h h'/\HB h':=by
 obtain⟨e,rfl⟩:∃k,d=k+2:=⟨d-2,by omega⟩;rw[δ H (by omega)];simp only[DO,I,Aa,w7];have x1:Ext h (((h.new (.cells [.int .i64 z] 3)).new (.cells [.bool false] 4)).new (.cells [.ptr ar 0] 100)):=((Av.new _ _).Da _).Da _;have n1:(((h.new (.cells [.int .i64 z] 3)).new (.cells [.bool false] 4)).new (.cells [.ptr ar 0] 100)).next=h.next+3:=rfl
 have gb:(((h.new (.cells [.int .i64 z] 3)).new (.cells [.bool false] 4)).new (.cells [.ptr ar 0] 100)).get (h.next+2)=some (.cells [.ptr ar 0] 100):=Ad _ _;have g4:(((h.new (.cells [.int .i64 z] 3)).new (.cells [.bool false] 4)).new (.cells [.ptr ar 0] 100)).get (h.next+1)=some (.cells [.bool false] 4):=by
  rw[Ay _ (aO _)];exact Ad _ _
 have g3:(((h.new (.cells [.int .i64 z] 3)).new (.cells [.bool false] 4)).new (.cells [.ptr ar 0] 100)).get h.next=some (.cells [I z] 3):=by
  rw[Ay _ (show h.next<h.next+2 by omega),Ay _ (show h.next<h.next+1 by omega)];exact Ad _ _
 rw[show((h.new (.cells [.int .i64 z] 3)).new (.cells [.bool false] 4)).next=h.next+2 from rfl,show(h.new (.cells [.int .i64 z] 3)).next=h.next+1 from rfl];generalize ((h.new (.cells [.int .i64 z] 3)).new (.cells [.bool false] 4)).new (.cells [.ptr ar 0] 100)=h1 at x1 n1 gb g4 g3⊢;have p:=x1.hb hb;generalize E:((((((Tr.nil.put 0 (some (EV.ptr ar 0))).put 1 (some (EV.int .i64 z))).put 3 (some (EV.ptr h.next 0))).put 4 (some (EV.ptr (h.next+1) 0))).put 6 (some (EV.ptr ar 0))).put 7 (some (EV.func 128 [] [EV.ptr (h.next+2) 0])))=tm;have t3:tmp tm 3=.ptr h.next 0:=by rw[<-E];simp only[It,reduceIte,Nat.reduceEqDiff]
 have t4:tmp tm 4=.ptr (h.next+1) 0:=by rw[<-E];simp only[It,reduceIte,Nat.reduceEqDiff]
 clear E;refine Ok.range ?_;rw[ε H (cZ _)];simp only[DP,dr];have J:Ext h1 (Cg TT 55 12 0 tm h1):=Jn;have k0:(Cg TT 55 12 0 tm h1).get h1.next=some (.deferred true):=Lm
 have k1:(Cg TT 55 12 0 tm h1).get (h1.next+1)=some (Aw TT 55 12 0 tm .ready none h1.next):=Jy;generalize Cg TT 55 12 0 tm h1=h3 at J k0 k1⊢;have W:=J.hb p;have ae:h3.get ar=some (.cells (arC m cur Br) 152):=J.at p (x1.at hb hA);rw[Ai (J.at p gb) rfl (v:=.ptr ar 0) rfl];simp only[Aa];rw[Cn ae rfl (show Og (arC m cur Br) 1 6=some [I (cur 0),I (Br 0),I (cur 1),I (Br 1),I (cur 2),I (Br 2)]from rfl)];have I3:mc h3 (h1.next+1) h1.next tm h.next (h.next+1) z false:=⟨k1,J.at p g3,J.at p g4,W⟩
 refine(γ (K:=K) H t3 t4 (by omega) (e:=e) (by omega) (cur:=cur) (Br:=Br) K 0 h3 (by omega) (by omega) rfl I3 (Av.refl _)).mono ?_;rintro _ h4 ⟨u,c4⟩;generalize Wy cur Br z=b at u⊢;have l4:=u.hb _ _ u.lp;have kd:h4.get h1.next=some (.deferred true):=c4.at W k0 (by omega)
 have x4:Ext h h4:=(x1.trans J).then c4 fun i hi a=>by omega
 have l5:=u.hb _ _ u.c4;have f:∀(O:Ab) (b:Bool),O.get (h.next+1)=some (.cells [.bool b] 4)->Jk TT [.c (.ptr (h.next+1) 0) 4] O=some (.bool b,O):=by
  intro O b hg;have hr:I6 O (h.next+1) 0 1=some [.bool b]:=by unfold I6;rw[hg];rfl
  unfold Jk;simp only[kg,show TT.size 4=some 1 by kernel_rfl,show TT.agg 4=some false by kernel_rfl,hr]
 have lp:=u.lp;cases b with
 | true=>
  simp only[bJ]at lp;refine .inr ⟨lp,?_⟩;have o:HB (h4.put (h1.next+1) (Aw TT 55 12 0 tm .exhausted (some .ret) h1.next)):=u.hb.put l4 _;refine Ok.unwind (cK.2 ⟨by simp,dP⟩) (fun d hd=>by rw[aP]at hd;subst hd;rw[Af _];exact kd) o fun h6 U _=>?_
  have g6:h6.get (h.next+1)=some (.cells [.bool true] 4):=Av.at U o (by rw[Af _];exact u.c4) (by rw[aP];omega);rw[f h6 true g6];exact .ret ⟨rfl,(x4.Ar (.inr (by omega)) l4 _).then U fun i hi a=>by rw[aP]at hi;omega,U.hb o⟩
 | false=>
  simp only[aX,ak]at lp;refine .inl ⟨lp,?_⟩;simp only[Yo,dr];have o:HB (h4.put (h1.next+1) (Aw TT 55 12 0 tm .exhausted none h1.next)):=u.hb.put l4 _;have g5:(h4.put (h1.next+1) (Aw TT 55 12 0 tm .exhausted none h1.next)).get (h.next+1)=some (.cells [.bool false] 4):=by rw[Af _];exact u.c4
  have x5:Ext h (h4.put (h1.next+1) (Aw TT 55 12 0 tm .exhausted none h1.next)):=x4.Ar (.inr (by omega)) l4 _;have d5:(h4.put (h1.next+1) (Aw TT 55 12 0 tm .exhausted none h1.next)).get h1.next=some (.deferred true):=by rw[Af _];exact kd
  generalize h4.put (h1.next+1) (Aw TT 55 12 0 tm .exhausted none h1.next)=O at o g5 x5 d5⊢;have l6:=o _ _ g5;refine Ok.gT g5 rfl rfl (by show 0<1;decide) ?_;have V:HB (O.put (h.next+1) (.cells ([EV.bool false].set 0 (.bool false)) 4)):=o.put l6 _;refine Ok.unwind (cK.2 ⟨by simp,dP⟩) (fun d hd=>by rw[aP]at hd;subst hd;rw[Af _];exact d5) V fun h6 U _=>?_
  have g6:h6.get (h.next+1)=some (.cells [.bool false] 4):=Av.at U V (Ae _ _ _) (by rw[aP];omega);rw[f h6 false g6];exact .ret ⟨rfl,(x5.Ar (.inr (by omega)) l6 _).then U fun i hi a=>by rw[aP]at hi;omega,U.hb V⟩
end
end
section
theorem ζ(A:Bv disp)(hK:10000<K){S:Mi}(M:Db h m S F)(hb:HB h)(hd:7<=d)(z:Int)
 (u:∀h' T,Kp T h h'->(∀i,T i->¬F i)->HB h'->Ok (k (.bool (hasB S.ps S.g.D.toNat z)) h') Q):Ok (Am (Cs K (.ptr m 0) h) fun v h=>Am (Ag TT disp K d false 29 [v,I z] h) k) Q:=by
 obtain⟨lt,D,p,bl,ql,np,q,c,G,a⟩:=M.s;rw[Yl a.H2,Au];have f:=a.psz.nd;obtain⟨b1,b2,b3⟩:=a.psz.bd;subst f;refine(DQ (K:=K) A a.Gn hb a.psz.cap (by omega) (by omega) hd (by omega) z).Am ?_;rintro _ h' ⟨rfl,E,o⟩;refine u h' _ E (fun i hi y=>?_) o;obtain⟨d,hd,rfl⟩:=hi;exact(a.sub.2.2.2.2.2 d hd).2.2 y
theorem η(hK:10000<K){S:Mi}(M:Db h m S F)(hb:HB h)
 (o:∀h',Ext h h'->Ok (k (I (Ft S.ps S.g.D.toNat)) h') Q):Ok (Am (Cs K (.ptr m 0) h) fun v h=>Am (Im K v h) k) Q:=by
 obtain⟨lt,D,p,bl,ql,np,q,c,G,a⟩:=M.s;rw[Yl a.H2,Au];have f:=a.psz.nd;subst f;refine(DR (K:=K) a.Gn hb a.psz.small).Am ?_;rintro _ h' ⟨rfl,x⟩;exact o h' x
structure Qt(F:Nat->Prop)(h h':Ab):Prop where
 Ou:∃T,Kp T h h'/\∀i,T i->¬F i
 hb:HB h'
theorem Qt.refl(hb:HB h):Qt F h h:=⟨⟨fun _=>False,Kp.refl _,fun _ y=>y.elim⟩,hb⟩
theorem Qt.ext(x:Ext h h')(hb:HB h):Qt F h h':=⟨⟨fun _=>False,Ext.kp x,fun _ y=>y.elim⟩,x.hb hb⟩
theorem Qt.trans{a b c:Ab}(x:Qt F a b)(y:Qt F b c):Qt F a c:=by
 obtain⟨⟨T,k,t⟩,_⟩:=x;obtain⟨⟨U,l,u⟩,hb⟩:=y;refine⟨⟨fun i=>T i\/U i,Kp.trans ⟨k.chg.mono fun i=>.inl,k.same⟩ ⟨l.chg.mono fun i=>.inr,l.same⟩,fun i hi=>hi.elim (t i) (u i)⟩,hb⟩
theorem C0.rd(C:C0 h B X F)(r:Qt F h h'):Ee h h' B X F X:=by
 obtain⟨⟨T,k,t⟩,_⟩:=r;exact C.ZS k t
theorem Qt.next(r:Qt F h h'):h.next<=h'.next:=by
 obtain⟨⟨T,k,t⟩,_⟩:=r;exact k.chg.next
def Co.closed(X:Co)(z:Int):Bool:=decide (0<=Bp X.S.g z)&&(decide (¬z=X.S.a)&&(decide (¬z=X.S.b)&&(!X.S.E6 z&&(!Wy X.cur X.Br z&&!hasB X.S.ps X.S.g.D.toNat z))))
theorem w8(A:Bv disp)(hK:10000<K)(C:C0 h B X F)(hd:8<=d){z:Int}(J:Rng z):Ok (Ag TT disp K d false 19 [.ptr B.c 0,I z] h) fun v h'=>v=.bool (X.closed z)/\Qt F h h':=by
 obtain⟨e,rfl⟩:∃k,d=k+1:=⟨d-1,by omega⟩;rw[θ A (by omega)];simp only[DS,Aa];rw[C.ic,ι C.M]
 try simp only[Aa]
 rw[C.ic];refine(Pe (K:=K) C.M C.hb).Am ?_;rintro _ h2 ⟨rfl,x2⟩;refine(J1 (K:=K) C.sm z J h2).Am ?_;rintro _ h3 ⟨rfl,x3⟩;have x:Ext h h3:=x2.trans x3;have f:=(C.Y8 x).C;have p:Qt F h h3:=Qt.ext x C.hb;unfold Co.closed;simp only[I,Ac];have af:Er (.tuple []) false=false/\Er (.tuple []) true=false:=⟨rfl,rfl⟩;by_cases c1:0<=Bp X.S.g z
 case neg=>
  simp only[c1,aA,Aa,Ac,Ub,O0,Ij,Gi,Fp,av];exact .ret ⟨rfl,p⟩
 simp only[c1,aC,Aa,Ac,Ub,bI];by_cases c2:z=X.S.a
 ·simp only[c2,aB,aA,Aa,Ac,O0,Ij,Gi,Fp,av]
  exact .ret ⟨rfl,p⟩
 simp only[c2,aR,aC,Aa,Ac,O0,bI];by_cases c3:z=X.S.b
 ·simp only[c3,aB,aA,Aa,Ac,Ij,Gi,Fp,av]
  exact .ret ⟨rfl,p⟩
 simp only[c3,aR,aC,Aa,Ac,bI];rw[f.ic];refine(Jq (K:=K) f.M.s f.hb J).Am ?_;rintro _ h4 ⟨rfl,O⟩;have U:Qt F h h4:=p.trans (Qt.ext O f.hb);have o:=(f.Y8 O).C;cases X.S.E6 z with
 | true=>
  simp only[Aa,Ac,Ij,Gi,Fp,fF,av];exact .ret ⟨rfl,U⟩
 | false=>
 simp only[Aa,Ac,Ij,dJ,bI];rw[o.Hb];have V:=DN (K:=K) A (d:=e) (by omega) (by omega) o.ar o.hb z;simp only[I]at V;refine V.Am ?_;rintro _ h5 ⟨rfl,W,_⟩;have r5:Qt F h h5:=U.trans (Qt.ext W o.hb);have u:=(o.Y8 W).C;cases Wy X.cur X.Br z with
 | true=>
  simp only[Aa,Ac,Gi,Fp,fF,av];exact .ret ⟨rfl,r5⟩
 | false=>
 simp only[Aa,Ac,Gi,dJ,bI];rw[u.ic];refine ζ A hK u.M u.hb (d:=e) (by omega) z fun h6 T k6 t6 E=>?_
 have r6:Qt F h h6:=r5.trans ⟨⟨T,k6,fun i hi y=>t6 i hi (.inl y)⟩,E⟩;cases hasB X.S.ps X.S.g.D.toNat z with
 | true=>
  simp only[Aa,Ac,Fp,fF];exact .ret ⟨rfl,r6⟩
 | false=>
  simp only[Aa,Ac,Fp,dJ];exact .ret ⟨rfl,r6⟩
def Co.dead(X:Co)(z:Int):Bool:=X.closed z&&decide (Ze X.S.g X.es z=0)
theorem DT(A:Bv disp)(hK:10000<K)(C:C0 h B X F)(hd:9<=d){z:Int}(o:Rng z):Ok (Ag TT disp K d false 100 [.ptr B.c 0,I z] h) fun v h'=>v=.bool (X.dead z)/\Qt F h h':=by
 obtain⟨e,rfl⟩:∃k,d=k+1:=⟨d-1,by omega⟩;rw[κ A (by omega)];simp only[DU,Aa];refine(w8 A hK C (d:=e) (by omega) o).Am ?_;rintro _ h2 ⟨rfl,a⟩;have f:=(C.rd a).C;unfold Co.dead;have p:Er (.tuple []) false=false/\Er (.tuple []) true=false:=⟨rfl,rfl⟩;cases X.closed z with
 | false=>
  simp only[Aa,Ac,X8,av];exact .ret ⟨rfl,a⟩
 | true=>
  simp only[Aa,Ac,bI];rw[f.ji,wm f.map];simp only[Aa,I,Ac,X8];exact .ret ⟨rfl,a⟩
theorem Sm.Ug(s:Sm g):3<=g.D*g.Z/\g.D*g.Z<=512:=by
 have:=s.d0;have:=s.d1;have:=s.z0;have:=s.z1;obtain⟨f,m1⟩:=Q6 (a:=g.D) (b:=g.Z) (A:=8) (B:=64);have:g.D*1<=g.D*g.Z:=bT (by omega) (by omega);omega
theorem rE(A:Bv disp)(C:C0 h B X F)(a:∀h',Ext h h'->Ok (k (I (X.S.g.D*X.S.g.Z)) h') Q):Ok (Am (Ce K (.ptr B.m 0) h) fun v h=>Am (Dn K v h) k) Q:=by
 refine(Pe (K:=K) C.M C.hb).Am ?_;rintro _ h2 ⟨rfl,f⟩;rw[Nj C.sm,Au];exact a _ (f.Da _)
end
section
theorem μ:(Fk TT 144 0).2.1 = [8,9]:=by kernel_rfl
def inB(z:Int)(x:Me):Bool:=decide (x.state=1)&&(decide (x.Al=z)||decide (x.Bf=z))
def ItS(N:Nat)(i:Nat):Prop:=N<=i/\i<N+4
structure mZ(h:Ab)(N:Nat)(tm:Ba)(l0:Nat)(stop:Bool):Prop where
 y:h.get N=some (.cells [.Vv l0] 53)
 d:h.get (N+2)=some (.deferred true)
 l:h.get (N+3)=some (Aw TT 144 31 0 tm (if stop then .done else .ready) (if stop then some .ret else none) (N+2))
 lt:N+4<=h.next
structure rF(disp:Nat->Option FT)(K e l0 zq b ml ll:Nat)(g:Gm)(es:List Me)(z:Int)(N:Nat)(Inv:Nat->Ab->Prop)(Stop:Ab->Prop):Prop where
 frI:∀j h h',Inv j h->Av (ItS N) h h'->Inv j h'
 frS:∀h h',Stop h->Av (ItS N) h h'->Stop h'
 Dt:∀j (hj:j<es.length) h,inB z es[j]=true->Inv j h->N+4<=h.next->∃more h',Ag TT disp K e true l0 [I j] h=some (.bool more,h')/\Av (fun i=>¬ItS N i) h h'/\(if more=true then Inv (j+1) h' else Stop h')
 skp:∀j (hj:j<es.length) h,inB z es[j]=false->Inv j h->Inv (j+1) h
 hbI:∀j h,Inv j h->HB h
 hbS:∀h,Stop h->HB h
 map:∀j h,Inv j h->Ob h b ml ll g es
 zon:∀j h,Inv j h->h.get zq=some (.cells [I z] 3)
section
variable (H:Bv disp){ll:Nat}{es:List Me}{z:Int}{N:Nat}{Inv:Nat->Ab->Prop}(c:rF disp K e l0 zq b ml ll g es z N Inv Stop)(t2:tmp tm 2=.ptr zq 0)(t3:tmp tm 3=.ptr N 0)(lz:zq<N)(he:2<=e)
include H c t2 t3 lz he
theorem ν(hj:j<es.length)(S0:mZ h N tm l0 false)(I0:Inv j h):
 ∃more h',Ag TT disp K (e+1) true (N+3) [I j,.agg es[j].cells] h=some (.bool more,h')/\mZ h' N tm l0 (!more)/\(if more=true then Inv (j+1) h' else Stop h'):=by
 have hg:=S0.l;simp only[aX,ak]at hg;have a:=hg;have hb:=c.hbI _ _ I0;have Dt:=c.Dt j hj;have skp:=c.skp j hj;generalize es[j]=x at Dt skp⊢;unfold Aw at a;rw[μ]at a;rw[ξ H he tm h (I j) _ a,t2,t3];simp only[DV,Aa];rw[mV (h:=h.new (.cells [EV.int .i64 0,.int .i64 0,.int .i64 0,.int .i64 0,.int .i64 0,.int .i64 0] 47)) (i:=h.next) (o:=0) (n:=6) (v:=.agg x.cells) (l:=[EV.int .i64 0,.int .i64 0,.int .i64 0,.int .i64 0,.int .i64 0,.int .i64 0]) (l':=x.cells) (t:=47) (Ad _ _) rfl rfl rfl];obtain⟨h3,e_,u,e3,_⟩:=nP h (.cells [EV.int .i64 0,.int .i64 0,.int .i64 0,.int .i64 0,.int .i64 0,.int .i64 0] 47) (.cells x.cells 47);rw[e_];have af:=u.hb hb;have q0:=u.at hb hg;have l3:=af _ _ q0;rw[Z8 q0];have E:ItS N (N+3):=⟨by omega,by omega⟩;have c4:Av (ItS N) h (h3.put (N+3) (Aw TT 144 31 0 tm .busy none (N+2))):=(Ext.to (S:=ItS N) u).Ar (.inl E) l3 _;have r0:(h3.put (N+3) (Aw TT 144 31 0 tm .busy none (N+2))).get (N+3)=some (Aw TT 144 31 0 tm .busy none (N+2)):=Ae _ _ _;have J:(h3.put (N+3) (Aw TT 144 31 0 tm .busy none (N+2))).get N=some (.cells [.Vv l0] 53):=by rw[Af _];exact u.at hb S0.y
 have rd:(h3.put (N+3) (Aw TT 144 31 0 tm .busy none (N+2))).get (N+2)=some (.deferred true):=by rw[Af _];exact u.at hb S0.d
 have re:(h3.put (N+3) (Aw TT 144 31 0 tm .busy none (N+2))).get h.next=some (.cells x.cells 47):=by rw[Af _ (by have:=S0.lt;omega)];exact e3
 have O:=c.frI _ _ _ I0 c4;have U:h.next<=(h3.put (N+3) (Aw TT 144 31 0 tm .busy none (N+2))).next:=c4.next
 generalize h3.put (N+3) (Aw TT 144 31 0 tm .busy none (N+2))=h4 at c4 r0 J rd re O U⊢;have f:=c.hbI _ _ O;have rz:=c.zon _ _ O;have l4:=f _ _ r0;have ag:=S0.lt;have az:Er (.tuple []) false=false/\Er (.tuple []) true=false:=⟨rfl,rfl⟩;have no:inB z x=false->∃more h',Xh (N+3) true .ready none h4=some (.bool more,h')/\mZ h' N tm l0 (!more)/\(if more=true then Inv (j+1) h' else Stop h'):=fun hn=>by
  rw[Ri r0];refine⟨true,_,rfl,⟨by rw[Af _];exact J,by rw[Af _];exact rd,Ae _ _ _,by rw[Ab.Qr];omega⟩,?_⟩;rw[aI rfl];exact c.frI _ _ _ (skp h4 hn O) ((Av.refl (S:=ItS N) h4).Ar (.inl E) l4 _)
 have yes:inB z x=true->∃more h',Am (T5 (Ag TT disp K e false) (Ag TT disp K e true) (.Vv l0) [.int .i64 (j:Int)] h4) (fun ah h=>jj ah fun ai=>Jd (Ag TT disp K e false) (Ag TT disp K e true) K (N+3) (.bool true) ai h)=some (.bool more,h')/\mZ h' N tm l0 (!more)/\(if more=true then Inv (j+1) h' else Stop h'):=fun hy=>by
  obtain⟨more,h5,e5,c5,i5⟩:=Dt h4 hy O (bQ ag U);have hc:T5 (Ag TT disp K e false) (Ag TT disp K e true) (.Vv l0) [.int .i64 (j:Int)] h4=some (.bool more,h5):=e5;rw[hc,Au];have kp:∀k o,ItS N k->h4.get k=some o->h5.get k=some o:=fun k o hk g=>c5.at f g fun y=>y hk
  have p:=kp _ _ E r0;have V:=kp N _ ⟨by omega,by omega⟩ J;have W:=kp (N+2) _ ⟨by omega,by omega⟩ rd;have al:=c5.hb f;have l5:=al _ _ p;have a4:=c5.next
  cases more with
  | true=>
   simp only[Aa,Ac,Jd];rw[Ri p];refine⟨true,_,rfl,⟨by rw[Af _];exact V,by rw[Af _];exact W,Ae _ _ _,by rw[Ab.Qr];omega⟩,?_⟩;rw[aI rfl]at i5⊢;exact c.frI _ _ _ i5 ((Av.refl (S:=ItS N) h5).Ar (.inl E) l5 _)
  | false=>
   simp only[Aa,Ac,Jd];rw[Ri p];refine⟨false,_,rfl,⟨by rw[Af _];exact V,by rw[Af _];exact W,Ae _ _ _,by rw[Ab.Qr];omega⟩,?_⟩;rw[aG (by simp)]at i5⊢;exact c.frS _ _ i5 ((Av.refl (S:=ItS N) h5).Ar (.inl E) l5 _)
 simp only[DW,Aa];rw[Ai re rfl (v:=I x.state) rfl];unfold inB at no yes;simp only[I,Ac];by_cases s1:x.state=1
 case neg=>
  simp only[s1,aA,Aa,Ac,Qb,Lw,L5,Jd];exact no (by rw[aJ s1,av])
 simp only[s1,aC,Aa,Ac];rw[Ai re rfl (v:=I x.Al) rfl,Ai rz rfl (v:=I z) rfl];simp only[I,Ac];by_cases z1:x.Al=z
 ·simp only[z1,aC,Aa,Ac,Qb,Lw,L5]
  rw[Ai J rfl (v:=.Vv l0) rfl];exact yes (by rw[aM s1,aM z1];rfl)
 simp only[z1,aA,Aa,Ac,Qb];rw[Ai re rfl (v:=I x.Bf) rfl,Ai rz rfl (v:=I z) rfl];simp only[I,Ac];by_cases z2:x.Bf=z
 ·simp only[z2,aC,Aa,Ac,Lw,L5]
  rw[Ai J rfl (v:=.Vv l0) rfl];exact yes (by rw[aM s1,aM z2,Bool.or_true];rfl)
 simp only[z2,aA,Aa,Ac,Lw,L5,Jd];exact no (by rw[aJ z1,aJ z2,Bool.or_false,dI])
theorem ο(O:es.length<=256):∀(m i:Nat) (h:Ab),es.length-i<m->i<=es.length->mZ h N tm l0 false->Inv i h ->
 Ok (Cf (Ag TT disp K (e+1) false) (Ag TT disp K (e+1) true) K m (.Vv (N+3)) (.slice ml 0 es.length es.length false) (I es.length) (I i) h) fun _ h'=>∃stop,mZ h' N tm l0 stop/\(if stop=true then Stop h' else Inv es.length h')/\HB h':=by
 intro m;induction m with
 | zero=>intro i h hm;omega
 | succ m p=>
  intro i h hm hi S0 f;have hb:=c.hbI _ _ f;have u:=(c.map _ _ f).row;rw[Cf];simp only[I,Ac,Aa];by_cases a:i<es.length
  ·have:decide ((i:Int)<(es.length:Int))=true:=by simp;omega
   simp only[this,Aa,F2];rw[Mw a,bM,Cn u rfl (tA es a)]
   try simp only[Aa]
   have rd:=fun h S0 f=>ν (K:=K) H c t2 t3 lz he a (h:=h) S0 f
   generalize es[i]=x at rd⊢;refine Ok.mk rfl rfl fun h3 o e3 _=>?_
   rw[Cn e3 rfl (Aj (n:=6) rfl)];have S3:mZ h3 N tm l0 false:=⟨o.at hb S0.y,o.at hb S0.d,o.at hb S0.l,bQ S0.lt o.next⟩;obtain⟨more,h4,E,S4,i4⟩:=rd h3 S3 (c.frI _ _ _ f (Ext.to o));have J:T5 (Ag TT disp K (e+1) false) (Ag TT disp K (e+1) true) (.Vv (N+3)) [.int .i64 (i:Int),.agg x.cells] h3=some (.bool more,h4):=E;rw[J,Au];cases more with
   | false=>
    simp only[Aa];rw[aG (by simp)]at i4;refine .ret ⟨true,S4,by rw[aI rfl];exact i4,?_⟩;exact c.hbS _ i4
   | true=>
    simp only[Aa,F4,Ac];rw[aI rfl]at i4;rw[Cl,show((i:Nat):Int)+1=((i+1:Nat):Int) by omega];exact p (i+1) h4 (by omega) (by omega) S4 i4
  ·have:decide ((i:Int)<(es.length:Int))=false:=by simp;omega
   have:i=es.length:=by omega
   subst this;simp only[Aa,aA,Int.lt_irrefl];exact .ret ⟨false,S0,by rw[aG (by simp)];exact f,hb⟩
end
theorem π(H:Bv disp)(hK:1000<K){V ll:Nat}{es:List Me}{z:Int}{Inv:Nat->Ab->Prop}(c:rF disp K e l0 zq b ml ll g es z h0.next Inv Stop)(he:2<=e)(s:Sm g)(gv:h0.get V=some (.cells [.ptr b 0] 43))(E:Inv 0 h0):
 Ok (Ag TT disp K (e+3) false 144 [.Vv l0,.ptr V 0,.ptr zq 0] h0) fun v h'=>v=.tuple []/\(Inv es.length h'\/Stop h'):=by
 have:=s.b0;have:=s.b1;have hb:=c.hbI _ _ E;have mp:=c.map _ _ E;have gz:=c.zon _ _ E;have hlen:=mp.len;have lz:=hb _ _ gz;have lm:=hb _ _ mp.row;rw[ς H (by omega)];simp only[DY,dr];rw[τ rfl];obtain⟨h1,e_,J,y1,n1⟩:=nW h0 (.cells (EV.Vv l0).cells 53);rw[e_];have o:=J.hb hb;rw[Ai (J.at hb gv) rfl (v:=.ptr b 0) rfl];simp only[X5,Aa,Fj];rw[Ai (J.at hb mp.map) rfl (v:=.slice ml 0 g.B.toNat g.B.toNat false) rfl,<-hlen];simp only[Aa];have O:Ext h1 (h1.new (.cells [.slice ml 0 es.length es.length false] 113)):=Av.new _ _;have q2:(h1.new (.cells [.slice ml 0 es.length es.length false] 113)).get h1.next=some (.cells [.slice ml 0 es.length es.length false] 113):=Ad _ _
 have n2:(h1.new (.cells [.slice ml 0 es.length es.length false] 113)).next=h0.next+2:=by rw[Ab.Dx,n1]
 generalize h1.new (.cells [.slice ml 0 es.length es.length false] 113)=h2 at O q2 n2⊢;have p:=O.hb o;generalize a:(((((Tr.nil.put 0 (some (EV.Vv l0))).put 1 (some (EV.ptr V 0))).put 2 (some (EV.ptr zq 0))).put 3 (some (EV.ptr h0.next 0))).put 6 (some (EV.ptr b 0))).put 7 (some (EV.func 104 [] [EV.ptr h1.next 0]))=tm;have t2:tmp tm 2=.ptr zq 0:=by rw[<-a];simp only[It,reduceIte,Nat.reduceEqDiff]
 have t3:tmp tm 3=.ptr h0.next 0:=by rw[<-a];simp only[It,reduceIte,Nat.reduceEqDiff]
 clear a;refine Ok.range ?_;have u:Ext h2 (Cg TT 144 31 0 tm h2):=Jn;have W:(Cg TT 144 31 0 tm h2).get h2.next=some (.deferred true):=Lm
 have k1:(Cg TT 144 31 0 tm h2).get (h2.next+1)=some (Aw TT 144 31 0 tm .ready none h2.next):=Jy;have n3:(Cg TT 144 31 0 tm h2).next=h2.next+2:=rfl
 generalize Cg TT 144 31 0 tm h2=h3 at u W k1 n3⊢;have ao:=u.hb p;rw[n2]at W k1 n3⊢;have ab:Ext h0 h3:=(J.trans O).trans u;rw[Jm H (cZ _)];simp only[Gs,dr];rw[Ai (u.at p q2) rfl (v:=.slice ml 0 es.length es.length false) rfl];simp only[Aa];have S3:mZ h3 h0.next tm l0 false:=⟨Ext.at (O.trans u) o y1,W,k1,by omega⟩
 have I3:=c.frI _ _ _ E (Ext.to ab);refine(ο (K:=K) H c t2 t3 lz he (by omega) K 0 h3 (by omega) (by omega) S3 I3).mono ?_;rintro _ h4 ⟨stop,S4,i4,f⟩;have lp:=S4.l;have U:=f _ _ lp;have au:=S4.lt;have sd:ItS h0.next (h0.next+2):=⟨by omega,by omega⟩
 have sl:ItS h0.next (h0.next+3):=⟨by omega,by omega⟩
 cases stop with
 | true=>
  simp only[bJ]at lp i4;refine .inr ⟨lp,?_⟩;have d5:(h4.put (h0.next+2+1) (Aw TT 144 31 0 tm .exhausted (some .ret) (h0.next+2))).get (h0.next+2)=some (.deferred true):=by rw[Af _];exact S4.d
  refine Ok.unwind (cK.2 ⟨by simp,dP⟩) (fun d hd=>by rw[aP]at hd;subst hd;exact d5) (f.put U _) fun h6 ch _=>?_
  refine .ret ⟨rfl,.inr (c.frS _ _ i4 (((Av.refl (S:=ItS h0.next) h4).Ar (.inl sl) U _).trans (ch.mono fun i hi=>by rw[aP]at hi;subst hi;exact sd)))⟩
 | false=>
  simp only[aX,ak]at lp i4;refine .inl ⟨lp,?_⟩;have d5:(h4.put (h0.next+2+1) (Aw TT 144 31 0 tm .exhausted none (h0.next+2))).get (h0.next+2)=some (.deferred true):=by rw[Af _];exact S4.d
  refine Ok.unwind (cK.2 ⟨by simp,dP⟩) (fun d hd=>by rw[aP]at hd;subst hd;exact d5) (f.put U _) fun h6 ch _=>?_
  refine .ret ⟨rfl,.inl (c.frI _ _ _ i4 (((Av.refl (S:=ItS h0.next) h4).Ar (.inl sl) U _).trans (ch.mono fun i hi=>by rw[aP]at hi;subst hi;exact sd)))⟩
end
section
theorem Qt.jF(q:Qt F h0 h)(c:Av T h h')(t:∀i,T i->h0.next<=i):Qt F h0 h':=by
 obtain⟨⟨U,k,u⟩,hb⟩:=q;exact⟨⟨U,k.tQ c t,u⟩,c.hb hb⟩
theorem Ok.pQ(H:Bv disp)(hK:1000<K){a ll:Nat}{es:List Me}{z:Int}{Inv:Nat->Ab->Prop}{fn:Nat}{ds:List Nat}{k:Ab->List Nat->R}{ret:Ab->List Nat->R}
 (c:rF disp K e (h.next+1) zq b ml ll g es z (h.next+2) Inv Stop) (he:2<=e) (s:Sm g) (f:h.get a=some (.cells [.ptr b 0] 43)) (hb:HB h) (o:Inv 0 (Cg TT fn n i tm h))
 (p:∀h',Inv es.length h'->h'.get (h.next+1)=some (Aw TT fn n i tm .ready none h.next)/\Ok (k (h'.put (h.next+1) (Aw TT fn n i tm .exhausted none h.next)) (h.next::ds)) Q)
 (u:∀h',Stop h'->h'.get (h.next+1)=some (Aw TT fn n i tm .done (some .ret) h.next)/\Ok (ret (h'.put (h.next+1) (Aw TT fn n i tm .exhausted (some .ret) h.next)) (h.next::ds)) Q) :
 Ok (X6 (Ag TT disp K (e+3) false) TT fn n i (.func 144 [] [.ptr a 0,.ptr zq 0]) tm h ds k ex ret) Q:=by
 refine Ok.range ((π (K:=K) H hK (h0:=Cg TT fn n i tm h) c he s (Jn.at hb f) o).mono ?_);rintro _ h' ⟨rfl,y|y⟩
 ·exact .inl (p h' y)
 ·exact .inr (u h' y)
def mg(S:Mi)(x:Me):Bool:=!S.E6 x.Al&&!S.E6 x.Bf
def km(S:Mi)(z:Int)(es:List Me):Bool:=es.all fun x=>!inB z x||mg S x
theorem DZ {S:Mi}{z:Int}{es:List Me}(hj:j<es.length):km S z (es.take (j+1))=(km S z (es.take j)&&(!inB z es[j]||mg S es[j])):=by
 unfold km;rw[fV,List.all_append,aD hj];simp
theorem υ {S:Mi}{z:Int}{es:List Me}(hj:j<es.length)(hi:inB z es[j]=true)(a:mg S es[j]=false):km S z es=false:=by
 unfold km;rw[List.all_eq_false];exact⟨es[j],bH hj,by rw[hi,a];simp⟩
structure mi(F:Nat->Prop)(h0 h:Ab)(l0:Nat)(tm:Ba)(B:Cb)(zq:Nat)(z:Int)(stop:Bool):Prop where
 q:Qt F h0 h
 lp:h.get l0=some (Aw TT 80 40 0 tm (if stop then .done else .ready) (if stop then some .ret else none) (l0-1))
 dd:h.get (l0-1)=some (.deferred true)
 c2:h.get h0.next=some (.cells [.ptr B.c 0] 26)
 c4:h.get (h0.next+1)=some (.cells [.bool false] 4)
 zq:h.get zq=some (.cells [I z] 3)
theorem mi.chg{z:Int}{stop:Bool}(w:mi F h0 h l0 tm B zq z stop)(c:Av T h h')(t:∀i,T i->l0<i)(l:h0.next+1<l0)(lz:zq<l0):mi F h0 h' l0 tm B zq z stop:=by
 have kp:∀i o,h.get i=some o->i<=l0->h'.get i=some o:=fun i o g hi=>c.at w.q.hb g fun y=>by have:=t i y;omega
 exact⟨w.q.jF c fun i hi=>by have:=t i hi;omega,kp _ _ w.lp (aE _),kp _ _ w.dd (by omega),kp _ _ w.c2 (by omega),kp _ _ w.c4 (by omega),kp _ _ w.zq (by omega)⟩
theorem φ:(Fk TT 80 0).2.1 = [14]:=by kernel_rfl
theorem χ {es:List Me}(hj:j<es.length):Xj es (j:Int)=(es[j],0):=by
 unfold Xj;rw[aI ⟨by omega,by omega⟩,bF,aD hj];rfl
theorem rG(s:Sm g){x:Me}(h:meR g x=true):Rng x.Al/\Rng x.Bf:=by
 obtain⟨_,a,b,_⟩:=wI s h;exact⟨⟨by omega,by omega⟩,⟨by omega,by omega⟩⟩
section
variable (A:Bv disp)(hK:10000<K)(C:C0 h0 B X F)
include A C
theorem ψ{z:Int}(t2:tmp tm 2=.ptr h0.next 0)(t4:tmp tm 4=.ptr (h0.next+1) 0)(l:h0.next+1<l0)(lz:zq<l0)(nz:h0.next+1<zq)(he:4<=e)(hj:j<X.es.length)(O:mi F h0 h l0 tm B zq z false):
 Ok (Ag TT disp K e true l0 [I j] h) fun v h'=>v=.bool (mg X.S X.es[j])/\Av (fun i=>i=l0\/i=h0.next+1) h h'/\mi F h0 h' l0 tm B zq z (!mg X.S X.es[j]):=by
 obtain⟨e,rfl⟩:∃k,e=k+1:=⟨e-1,by omega⟩;have hg:=O.lp;simp only[aX,ak]at hg;have U:=hg;unfold Aw at U;rw[φ]at U;rw[ω A (by omega) tm h (I j) U,t2,t4];have hb:=O.q.hb;have ab:=hb _ _ hg;simp only[D_,Z8 hg,Xq,dr];have n4:l0≠h0.next+1:=by omega
 have c1:Av (fun i=>i=l0\/i=h0.next+1) h (h.put l0 (Aw TT 80 40 0 tm .busy none (l0-1))):=(Av.refl h).Ar (.inl (.inl rfl)) ab _;have g0:(h.put l0 (Aw TT 80 40 0 tm .busy none (l0-1))).get l0=some (Aw TT 80 40 0 tm .busy none (l0-1)):=Ae _ _ _;have kp:∀i o,h.get i=some o->i≠l0->(h.put l0 (Aw TT 80 40 0 tm .busy none (l0-1))).get i=some o:=fun i o g hi=>by rw[Af _ (cY hi)];exact g
 have gd:=kp _ _ O.dd (by omega);have V:=kp _ _ O.c2 (by omega);have g4:=kp _ _ O.c4 (by omega);have gz:=kp _ _ O.zq (by omega);have q1:Qt F h0 (h.put l0 (Aw TT 80 40 0 tm .busy none (l0-1))):=O.q.jF ((Av.refl (S:=fun i=>i=l0) h).Ar (.inl rfl) ab _) fun i hi=>by omega
 clear kp;generalize h.put l0 (Aw TT 80 40 0 tm .busy none (l0-1))=h1 at c1 g0 gd V g4 gz q1⊢;have u:=(C.rd q1).C;rw[Ai V rfl (v:=.ptr B.c 0) rfl];simp only[Aa];rw[u.ji];refine(pK (K:=K) C.sm u.map u.hb j).Am ?_;rintro _ h2 ⟨rfl,x2⟩;rw[χ hj];have hx:=C.map.ok _ (bH hj);obtain⟨r1,r2⟩:=rG C.sm hx;unfold mg;generalize X.es[j]=x at r1 r2⊢;simp only[Aa];have au:=x2.hb u.hb;refine Ok.mk rfl rfl fun h3 x3 e3 _=>?_
 have W:=x2.trans x3;have a:=x3.hb au;have ad:∀{i o},h1.get i=some o->h3.get i=some o:=fun g=>Ext.at W u.hb g
 have C3:=(u.Y8 W).C;have l2:=a _ _ (ad V);have lc:=a _ _ C3.core;have le:=a _ _ e3;rw[Hb l2,Ai (ad V) rfl (v:=.ptr B.c 0) rfl];simp only[Aa,As];rw[Hb lc,C3.ic];simp only[Aa,As];rw[Hb le,Ai e3 rfl (v:=I x.Al) rfl];simp only[Aa,As];refine Ok.bE (Jq (K:=K) (C3.M.same (iO.lift _)).s (C8 a) r1) (fun _ _ p=>p.2) ?_;rintro _ a9 h4 ⟨rfl,_⟩ _ x4;have ay:=x4.hb a;have E:=W.trans x4;have fin:∀(b:Bool) (J:Ab),Ext h1 J->Ok (Dh (Ag TT disp K e false) (Ag TT disp K e true) K l0 h3.next ⟨0,[],[],[],[]⟩ (.ptr (h0.next+1) 0) (.bool (!b)) (.bool (!b)) J) fun v h'=>v=.bool b/\Av (fun i=>i=l0\/i=h0.next+1) h h'/\mi F h0 h' l0 tm B zq z (!b):=fun b J x5=>by
  have ae:=x5.hb u.hb;have f:∀{i o},h1.get i=some o->J.get i=some o:=fun g=>Ext.at x5 u.hb g
  have q5:=q1.trans (Qt.ext x5 u.hb);have l5:=ae _ _ (f g0);have af:=ae _ _ (f g4);have c5:=c1.trans (Ext.to x5);cases b with
  | true=>
   simp only[Dh,fF,Aa,Ac];rw[Ri (f g0)];exact .ret ⟨rfl,c5.Ar (.inl (.inl rfl)) l5 _,q5.jF ((Av.refl (S:=fun i=>i=l0) J).Ar (.inl rfl) l5 _) (fun i hi=>by omega),Ae _ _ _,by rw[Af _];exact f gd,by rw[Af _];exact f V,by rw[Af _];exact f g4,by rw[Af _];exact f gz⟩
  | false=>
   simp only[Dh,dJ,Aa,Ac];rw[mV (o:=0) (n:=1) (v:=.bool false) (l':=[.bool false]) (f g4) rfl rfl rfl,Ri (by rw[Af _ (cY n4)];exact f g0)];exact .ret ⟨rfl,(c5.Ar (.inl (.inr rfl)) af _).Ar (.inl (.inl rfl)) l5 _,q5.jF (((Av.refl (S:=fun i=>h0.next<=i) J).Ar (.inl (by omega)) af _).Ar (.inl (by omega)) l5 _) (fun i hi=>hi),Ae _ _ _,
    by rw[Af _,Af _];exact f gd,by rw[Af _,Af _];exact f V,by rw[Af _];exact Ae _ _ _,by rw[Af _,Af _];exact f gz⟩
 cases X.S.E6 x.Al with
 | true=>
  have:=fin false h4 E;simp only[Dh,dJ,Aa,Ac]at this;simp only[Aa,Ac,Dh,fF,av];exact this
 | false=>
 simp only[Aa,Ac,dJ,bI];have az:∀{i o},h1.get i=some o->h4.get i=some o:=fun g=>Ext.at E u.hb g
 have C4:=(u.Y8 E).C;rw[Hb l2,Ai (az V) rfl (v:=.ptr B.c 0) rfl];simp only[Aa,As];rw[Hb lc,C4.ic];simp only[Aa,As];rw[Hb le,Ai (x4.at a e3) rfl (v:=I x.Bf) rfl];simp only[Aa,As];refine Ok.bE (Jq (K:=K) (C4.M.same (iO.lift _)).s (C8 ay) r2) (fun _ _ p=>p.2) ?_;rintro _ bb J ⟨rfl,_⟩ _ x5;have ag:=E.trans x5;cases X.S.E6 x.Bf with
 | true=>
  have:=fin false J ag;simp only[Dh,dJ,Aa,Ac]at this;simp only[Aa,Ac,Dh,fF];exact this
 | false=>
  have:=fin true J ag;simp only[Dh,fF,Aa,Ac]at this;simp only[Aa,Ac,Dh,dJ];exact this
include hK
theorem Α(hd:8<=d)(z:Int):Ok (Ag TT disp K d false 80 [.ptr B.c 0,I z] h0) fun v h'=>v=.bool (km X.S z X.es)/\Qt F h0 h':=by
 obtain⟨e,rfl⟩:∃k,d=k+3+1:=⟨d-4,by omega⟩;rw[Β A (by omega)];simp only[EA,Aa];have hb:=C.hb;have U:Ext h0 ((h0.new (.cells [.ptr B.c 0] 26)).new (.cells [.bool false] 4)):=(Av.new _ _).Da _;have n1:((h0.new (.cells [.ptr B.c 0] 26)).new (.cells [.bool false] 4)).next=h0.next+2:=rfl
 have g2:((h0.new (.cells [.ptr B.c 0] 26)).new (.cells [.bool false] 4)).get h0.next=some (.cells [.ptr B.c 0] 26):=by rw[Ay _ (aO _)];exact Ad _ _
 have E:((h0.new (.cells [.ptr B.c 0] 26)).new (.cells [.bool false] 4)).get (h0.next+1)=some (.cells [.bool false] 4):=Ad _ _;rw[show(h0.new (.cells [.ptr B.c 0] 26)).next=h0.next+1 from rfl];generalize (h0.new (.cells [.ptr B.c 0] 26)).new (.cells [.bool false] 4)=h1 at U n1 g2 E⊢;have f:=U.hb hb;have C1:=(C.Y8 U).C;rw[Ai g2 rfl (v:=.ptr B.c 0) rfl];simp only[Aa];rw[C1.ji];simp only[rH,Aa,I];have J:Ext h1 ((h1.new (.cells [.ptr B.b 0] 43)).new (.cells [.int .i64 z] 3)):=(Av.new _ _).Da _;have n2:((h1.new (.cells [.ptr B.b 0] 43)).new (.cells [.int .i64 z] 3)).next=h0.next+4:=by rw[Ab.Dx,Ab.Dx,n1]
 have gv:((h1.new (.cells [.ptr B.b 0] 43)).new (.cells [.int .i64 z] 3)).get (h0.next+2)=some (.cells [.ptr B.b 0] 43):=by rw[<-n1,Ay _ (aO _)];exact Ad _ _
 have gz:((h1.new (.cells [.ptr B.b 0] 43)).new (.cells [.int .i64 z] 3)).get (h0.next+3)=some (.cells [I z] 3):=by rw[show h0.next+3=(h1.new (.cells [.ptr B.b 0] 43)).next by rw[Ab.Dx,n1]];exact Ad _ _
 rw[show(h1.new (.cells [.ptr B.b 0] 43)).next=h0.next+3 by rw[Ab.Dx,n1],n1];generalize (h1.new (.cells [.ptr B.b 0] 43)).new (.cells [.int .i64 z] 3)=h2 at J n2 gv gz⊢;have a:=J.hb f;have ab:Ext h0 h2:=U.trans J;generalize o:(((((((((Tr.nil.put 0 (some (EV.ptr B.c 0))).put 1 (some (EV.int .i64 z))).put 2 (some (EV.ptr h0.next 0))).put 4 (some (EV.ptr (h0.next+1) 0))).put 8 (some (EV.ptr B.c 0))).put 9 (some (EV.ptr B.c 0))).put 10 (some (EV.ptr B.c 2))).put 11 (some (EV.ptr B.b 0))).put 12 (some (EV.int .i64 z))).put 13 (some (EV.func 144 [] [EV.ptr (h0.next+2) 0,EV.ptr (h0.next+3) 0]))=tm;have t2:tmp tm 2=.ptr h0.next 0:=by rw[<-o];simp only[It,reduceIte,Nat.reduceEqDiff]
 have t4:tmp tm 4=.ptr (h0.next+1) 0:=by rw[<-o];simp only[It,reduceIte,Nat.reduceEqDiff]
 clear o;have nl:h2.next+1=h0.next+5:=by omega
 have hlen:=C.map.len;have cl:rF disp K e (h2.next+1) (h0.next+3) B.b B.ml B.ll X.S.g X.es z (h2.next+2) (fun j h=>mi F h0 h (h2.next+1) tm B (h0.next+3) z false/\km X.S z (X.es.take j)=true) (fun h=>mi F h0 h (h2.next+1) tm B (h0.next+3) z true/\km X.S z X.es=false):=by
  refine⟨fun j h h' w c=>⟨w.1.chg c (fun i hi=>by have:=hi.1;omega) (by omega) (by omega),w.2⟩,fun h h' w c=>⟨w.1.chg c (fun i hi=>by have:=hi.1;omega) (by omega) (by omega),w.2⟩,fun j hj h hi w _=>?_,fun j hj h hi w=>⟨w.1,?_⟩,fun j h w=>w.1.q.hb,fun h w=>w.1.q.hb,fun j h w=>(C.rd w.1.q).C.map,fun j h w=>w.1.zq⟩
  ·obtain⟨v,h',e1,rfl,c,w'⟩:=ψ (K:=K) A C t2 t4 (l0:=h2.next+1) (zq:=h0.next+3) (by omega) (by omega) (by omega) (e:=e) (by omega) hj w.1
   refine⟨_,h',e1,c.mono fun i hi y=>?_,?_⟩
   ·have:=y.1;omega
   ·cases V:mg X.S X.es[j]with
    | true=>
     rw[aI rfl];rw[V]at w';exact⟨w',by rw[DZ hj,w.2,V];simp⟩
    | false=>
     rw[aG (by simp)];rw[V]at w';exact⟨w',υ hj hi V⟩
  ·rw[DZ hj,w.2,hi];rfl
 have W:Ext h2 (Cg TT 80 40 0 tm h2):=Jn;have I0:mi F h0 (Cg TT 80 40 0 tm h2) (h2.next+1) tm B (h0.next+3) z false:=⟨Qt.ext (ab.trans W) hb,Jy,Lm,W.at a (J.at f g2),W.at a (J.at f E),W.at a gz⟩;refine Ok.pQ (K:=K) A (by omega) cl (by omega) C.sm gv a ⟨I0,rfl⟩ (fun h3 w=>⟨w.1.lp,?_⟩) fun h3 w=>⟨w.1.lp,?_⟩
 ·have w2:=w.2
  rw[bW]at w2;rw[w2];have p:=w.1.q.hb;have l3:=p _ _ w.1.lp;have u:Qt F h0 (h3.put (h2.next+1) (Aw TT 80 40 0 tm .exhausted none h2.next)):=w.1.q.jF ((Av.refl (S:=fun i=>i=h2.next+1) h3).Ar (.inl rfl) l3 _) fun i hi=>by omega
  have E:(h3.put (h2.next+1) (Aw TT 80 40 0 tm .exhausted none h2.next)).get (h0.next+1)=some (.cells [.bool false] 4):=by rw[Af _];exact w.1.c4
  have gd:(h3.put (h2.next+1) (Aw TT 80 40 0 tm .exhausted none h2.next)).get h2.next=some (.deferred true):=by rw[Af _];exact w.1.dd
  generalize h3.put (h2.next+1) (Aw TT 80 40 0 tm .exhausted none h2.next)=h4 at u E gd⊢;have l4:=u.hb _ _ E;simp only[Vy,dr];refine Ok.gT E rfl rfl (by show 0<1;decide) ?_;have q5:Qt F h0 (h4.put (h0.next+1) (.cells ([EV.bool false].set 0 (.bool true)) 4)):=u.jF ((Av.refl (S:=fun i=>i=h0.next+1) h4).Ar (.inl rfl) l4 _) fun i hi=>by omega
  refine Ok.unwind (cK.2 ⟨by simp,dP⟩) (fun d hd=>by rw[aP]at hd;subst hd;rw[Af _];exact gd) q5.hb fun h6 O _=>?_
  have g6:h6.get (h0.next+1)=some (.cells [.bool true] 4):=Av.at O q5.hb (Ae _ _ _) (by rw[aP];omega);rw[q8 g6];exact .ret ⟨rfl,q5.jF O fun i hi=>by rw[aP]at hi;omega⟩
 ·rw[w.2]
  have p:=w.1.q.hb;have l3:=p _ _ w.1.lp;have u:Qt F h0 (h3.put (h2.next+1) (Aw TT 80 40 0 tm .exhausted (some .ret) h2.next)):=w.1.q.jF ((Av.refl (S:=fun i=>i=h2.next+1) h3).Ar (.inl rfl) l3 _) fun i hi=>by omega
  refine Ok.unwind (cK.2 ⟨by simp,dP⟩) (fun d hd=>by rw[aP]at hd;subst hd;rw[Af _];exact w.1.dd) u.hb fun h6 O _=>?_
  have g6:h6.get (h0.next+1)=some (.cells [.bool false] 4):=Av.at O u.hb (by rw[Af _];exact w.1.c4) (by rw[aP];omega);rw[q8 g6];exact .ret ⟨rfl,u.jF O fun i hi=>by rw[aP]at hi;omega⟩
end
end
section
def ik(z:Int)(es:List Me)(j:Nat):List Nat:=(List.range j).filter fun i=>inB z ((es[i]?).getD (Me.nil 0))
theorem Γ {z:Int}{es:List Me}(hj:j<es.length)(h:inB z es[j]=true):ik z es (j+1)=ik z es j++[j]:=by
 unfold ik;rw[dE,fG,eh,aD hj];simp[h]
theorem Δ {z:Int}{es:List Me}(hj:j<es.length)(h:inB z es[j]=false):ik z es (j+1)=ik z es j:=by
 unfold ik;rw[dE,fG,eh,aD hj];simp[h]
theorem EB(z:Int)(es:List Me)(j:Nat):(ik z es j).length<=j:=by
 unfold ik;have:=fH (fun i=>inB z ((es[i]?).getD (Me.nil 0))) (List.range j);simpa using this
def nI(i:Nat):EV:=I (i:Int)
structure ov(F:Nat->Prop)(h0 h:Ab)(l0:Nat)(tm:Ba)(zq:Nat)(z:Int)(L:List Nat):Prop where
 q:Qt F h0 h
 lp:h.get l0=some (Aw TT 73 19 0 tm .ready none (l0-1))
 dd:h.get (l0-1)=some (.deferred true)
 zq:h.get zq=some (.cells [I z] 3)
 row:∃s qr,h.get h0.next=some (.cells [s] 28)/\Cd h s qr 3 1 L.length (L.map nI)/\(0<L.length->l0+5<=qr)
theorem ov.chg{z:Int}{L:List Nat}(w:ov F h0 h l0 tm zq z L)(c:Av T h h')(t:∀i,T i->l0<i/\i<l0+5)(l:h0.next<l0)(lz:zq<l0):ov F h0 h' l0 tm zq z L:=by
 have kp:∀i o,h.get i=some o->i<=l0->h'.get i=some o:=fun i o g hi=>c.at w.q.hb g fun y=>by have:=t i y;omega
 obtain⟨s,qr,p,a,f⟩:=w.row;exact⟨w.q.jF c fun i hi=>by have:=t i hi;omega,kp _ _ w.lp (aE _),kp _ _ w.dd (by omega),kp _ _ w.zq (by omega),s,qr,kp _ _ p (by omega),a.frame fun y=>c.get _ (w.q.hb _ _ (a.block y)) fun u=>by have:=t _ u;have:=f y;omega,f⟩
theorem Ε:(Fk TT 73 0).2.1 = [13]:=by kernel_rfl
section
variable (A:Bv disp)(hK:10000<K)
include A
theorem Ζ{z:Int}(t5:tmp tm 5=.ptr h0.next 0)(l:h0.next+1<l0)(lz:zq<l0)(nz:h0.next<zq)(he:2<=e){L:List Nat}(hL:L.length<=256)(nx:l0+5<=h.next)(p:ov F h0 h l0 tm zq z L):
 Ok (Ag TT disp K e true l0 [I j] h) fun v h'=>v=.bool true/\Av (fun i=>¬(l0<i/\i<l0+5)) h h'/\ov F h0 h' l0 tm zq z (L++[j]):=by
 obtain⟨e,rfl⟩:∃k,e=k+1:=⟨e-1,by omega⟩;have W:=p.lp;have f:=W;unfold Aw at f;rw[Ε]at f;rw[Η A (by omega) tm h (I j) f,t5];have hb:=p.q.hb;have aa:=hb _ _ W;simp only[EC,Z8 W,Wn,dr];obtain⟨s,qr,r1,r2,V⟩:=p.row;have c1:Av (fun i=>i=l0) h (h.put l0 (Aw TT 73 19 0 tm .busy none (l0-1))):=(Av.refl (S:=fun i=>i=l0) h).Ar (.inl rfl) aa _;have g0:(h.put l0 (Aw TT 73 19 0 tm .busy none (l0-1))).get l0=some (Aw TT 73 19 0 tm .busy none (l0-1)):=Ae _ _ _;have kp:∀i o,h.get i=some o->i≠l0->(h.put l0 (Aw TT 73 19 0 tm .busy none (l0-1))).get i=some o:=fun i o g hi=>by rw[Af _ (cY hi)];exact g
 have gd:=kp _ _ p.dd (by omega);have g5:=kp _ _ r1 (by omega);have gz:=kp _ _ p.zq (by omega);have rr:=r2.frame (h':=h.put l0 (Aw TT 73 19 0 tm .busy none (l0-1))) fun y=>Af _ (by have:=V y;omega)
 have ae:(h.put l0 (Aw TT 73 19 0 tm .busy none (l0-1))).next=h.next:=rfl
 have u:Qt F h0 (h.put l0 (Aw TT 73 19 0 tm .busy none (l0-1))):=p.q.jF c1 fun i hi=>by omega
 clear kp;generalize h.put l0 (Aw TT 73 19 0 tm .busy none (l0-1))=h1 at c1 g0 gd g5 gz rr ae u⊢;rw[Ai g5 rfl (v:=s) rfl];refine Md (z:=[.int .i64 0]) (v:=I j) rr u.hb rfl rfl rfl (by omega) (by omega) fun h2 E aj c2=>?_
 have J:=c2.hb u.hb;have O:∀i o,h1.get i=some o->i<=l0->h2.get i=some o:=fun i o g hi=>c2.at u.hb g fun y=>by have:=V y.1;omega
 have U:=O _ _ g5 (by omega);have l5:=J _ _ U;have af:=J _ _ (O _ _ g0 (aE _));refine Ok.gT U rfl rfl (by show 0<1;decide) ?_;rw[Ri (by rw[Af _];exact O _ _ g0 (aE _))];have c3:Av (fun i=>i=l0\/i=h0.next) h2 ((h2.put h0.next (.cells ([s].set 0 (.slice (h1.next+1) 0 (L.length+1) (L.length+1) true)) 28)).put l0 (Aw TT 73 19 0 tm .ready none (l0-1))):=((Av.refl h2).Ar (.inl (.inr rfl)) l5 _).Ar (.inl (.inl rfl)) af _;have same:∀i,i≠l0->i≠h0.next->((h2.put h0.next (.cells ([s].set 0 (.slice (h1.next+1) 0 (L.length+1) (L.length+1) true)) 28)).put l0 (Aw TT 73 19 0 tm .ready none (l0-1))).get i=h2.get i:=fun i a b=>by rw[Af _ (cY a),Af _ (cY b)]
 refine .ret ⟨rfl,?_,?_,?_,?_,?_,?_⟩
 ·refine((c1.mono fun i hi y=>?_).trans (c2.mono fun i hi y=>?_)).trans (c3.mono fun i hi y=>?_)
  ·omega
  ·have:=V hi.1;omega
  ·omega
 ·refine(u.jF c2 fun i hi=>?_).jF c3 fun i hi=>by omega
  have:=V hi.1;omega
 ·exact Ae _ _ _
 ·rw[same _ (by omega) (by omega)];exact O _ _ gd (by omega)
 ·rw[same _ (by omega) (by omega)];exact O _ _ gz (by omega)
 ·refine⟨.slice (h1.next+1) 0 (L.length+1) (L.length+1) true,h1.next+1,?_,?_,fun _=>by omega⟩
  ·rw[Af _];exact Ae _ _ _
  ·rw[aF,cR]
   exact Cd.frame E fun _=>same _ (by omega) (by omega)
include hK
theorem Θ(C:C0 h0 B X F)(hd:8<=d)(z:Int):Ok (Ag TT disp K d false 73 [.ptr B.c 0,I z] h0) fun v h'=>Qt F h0 h'/\∃qr,Cd h' v qr 3 1 (ik z X.es X.es.length).length ((ik z X.es X.es.length).map nI)/\(0<(ik z X.es X.es.length).length->h0.next<=qr):=by
 obtain⟨e,rfl⟩:∃k,d=k+3+1:=⟨d-4,by omega⟩;rw[Ι A (by omega)];simp only[ED,Aa];have hb:=C.hb;obtain⟨h1,e_,J,p,n1⟩:=nW h0 (.cells [.Aq] 28);rw[e_];have f:=J.hb hb;have C1:=(C.Y8 J).C;rw[C1.ji];simp only[rH,Aa,I];have u:Ext h1 ((h1.new (.cells [.ptr B.b 0] 43)).new (.cells [.int .i64 z] 3)):=(Av.new _ _).Da _;have n2:((h1.new (.cells [.ptr B.b 0] 43)).new (.cells [.int .i64 z] 3)).next=h0.next+3:=by rw[Ab.Dx,Ab.Dx,n1]
 have gv:((h1.new (.cells [.ptr B.b 0] 43)).new (.cells [.int .i64 z] 3)).get (h0.next+1)=some (.cells [.ptr B.b 0] 43):=by rw[<-n1,Ay _ (aO _)];exact Ad _ _
 have gz:((h1.new (.cells [.ptr B.b 0] 43)).new (.cells [.int .i64 z] 3)).get (h0.next+2)=some (.cells [I z] 3):=by rw[show h0.next+2=(h1.new (.cells [.ptr B.b 0] 43)).next by rw[Ab.Dx,n1]];exact Ad _ _
 rw[show(h1.new (.cells [.ptr B.b 0] 43)).next=h0.next+2 by rw[Ab.Dx,n1],n1];generalize (h1.new (.cells [.ptr B.b 0] 43)).new (.cells [.int .i64 z] 3)=h2 at u n2 gv gz⊢;have a:=u.hb f;have O:Ext h0 h2:=J.trans u;generalize o:(((((((((Tr.nil.put 0 (some (EV.ptr B.c 0))).put 1 (some (EV.int .i64 z))).put 4 (some EV.Aq)).put 5 (some (EV.ptr h0.next 0))).put 7 (some (EV.ptr B.c 0))).put 8 (some (EV.ptr B.c 0))).put 9 (some (EV.ptr B.c 2))).put 10 (some (EV.ptr B.b 0))).put 11 (some (EV.int .i64 z))).put 12 (some (EV.func 144 [] [EV.ptr (h0.next+1) 0,EV.ptr (h0.next+2) 0]))=tm;have t5:tmp tm 5=.ptr h0.next 0:=by rw[<-o];simp only[It,reduceIte,Nat.reduceEqDiff]
 clear o;have nl:h2.next+1=h0.next+4:=by omega
 have hlen:=C.map.len;have:=C.sm.b0;have:=C.sm.b1;have cl:rF disp K e (h2.next+1) (h0.next+2) B.b B.ml B.ll X.S.g X.es z (h2.next+2) (fun j h=>ov F h0 h (h2.next+1) tm (h0.next+2) z (ik z X.es j)/\j<=X.es.length) (fun h=>False):=by
  refine⟨fun j h h' w c=>⟨w.1.chg c (fun i hi=>by have:=hi.1;have:=hi.2;omega) (by omega) (by omega),w.2⟩,fun h h' w c=>w.elim,fun j hj h hi w nx=>?_,fun j hj h hi w=>⟨by rw[Δ hj hi];exact w.1,hj⟩,fun j h w=>w.1.q.hb,fun h w=>w.elim,fun j h w=>(C.rd w.1.q).C.map,fun j h w=>w.1.zq⟩;have bl:=EB z X.es j;obtain⟨v,h',e1,rfl,c,w'⟩:=Ζ (K:=K) A t5 (l0:=h2.next+1) (zq:=h0.next+2) (by omega) (by omega) (by omega) (e:=e) (by omega) (j:=j) (by omega) (by omega) w.1;refine⟨true,h',e1,c.mono fun i hi y=>hi ⟨by have:=y.1;omega,by have:=y.2;omega⟩,?_⟩;rw[aI rfl,Γ hj hi];exact⟨w',hj⟩
 have U:Ext h2 (Cg TT 73 19 0 tm h2):=Jn;have I0:ov F h0 (Cg TT 73 19 0 tm h2) (h2.next+1) tm (h0.next+2) z (ik z X.es 0):=⟨Qt.ext (O.trans U) hb,Jy,Lm,U.at a gz,.Aq,0,U.at a (u.at f p),Cd.nil _ _ _ _,fun y=>absurd y (bN 0)⟩;refine Ok.pQ (K:=K) A (by omega) cl (by omega) C.sm gv a ⟨I0,cZ _⟩ (fun h3 w=>⟨w.1.lp,?_⟩) fun h3 w=>w.elim
 obtain⟨w,_⟩:=w;obtain⟨s,qr,r1,r2,V⟩:=w.row;have W:=w.q.hb;have l3:=W _ _ w.lp;have E:Qt F h0 (h3.put (h2.next+1) (Aw TT 73 19 0 tm .exhausted none h2.next)):=w.q.jF ((Av.refl (S:=fun i=>i=h2.next+1) h3).Ar (.inl rfl) l3 _) fun i hi=>by omega
 have p:(h3.put (h2.next+1) (Aw TT 73 19 0 tm .exhausted none h2.next)).get h0.next=some (.cells [s] 28):=by rw[Af _];exact r1
 have gd:(h3.put (h2.next+1) (Aw TT 73 19 0 tm .exhausted none h2.next)).get h2.next=some (.deferred true):=by rw[Af _];exact w.dd
 have rr:=r2.frame (h':=h3.put (h2.next+1) (Aw TT 73 19 0 tm .exhausted none h2.next)) fun y=>Af _ (by have:=V y;omega)
 generalize h3.put (h2.next+1) (Aw TT 73 19 0 tm .exhausted none h2.next)=h4 at E p gd rr⊢;simp only[Uc,dr];rw[Ai p rfl (v:=s) rfl];refine Ok.unwind (cK.2 ⟨by simp,dP⟩) (fun d hd=>by rw[aP]at hd;subst hd;exact gd) E.hb fun h6 ch _=>?_
 exact .ret ⟨E.jF ch fun i hi=>by rw[aP]at hi;omega,qr,rr.frame fun y=>ch.get _ (E.hb _ _ (rr.block y)) fun y'=>by rw[aP]at y';have:=V y;omega,fun y=>by have:=V y;omega⟩
end
end
section
def Co.live(X:Co)(z:Int):Int:=Ze X.S.g X.es z
def Co.jG(X:Co)(z:Int):Bool:=X.closed z&&(decide (2*X.live z<=X.S.g.S)&&km X.S z X.es)
def Co.Kw(X:Co):Nat->Int
 | 0=>-1
 | i+1=>if X.jG i=true/\(X.Kw i = -1\/X.live i<X.live (X.Kw i))then i else X.Kw i
theorem Co.w9(X:Co):∀n,-1<=X.Kw n/\X.Kw n<n
 | 0=>by unfold Co.Kw;omega
 | n+1=>by
  have:=X.w9 n;unfold Co.Kw;split<;>omega
theorem EE(a:X.es.length<=256)(z:Int):0<=X.live z/\X.live z<=256:=by
 unfold Co.live Ze;split
 ·have:=pJ z X.es;omega
 ·omega
theorem C0.EF(C:C0 h B X F):X.es.length<=256:=by
 have:=C.map.len;have:=C.sm.b1;have:=C.sm.b0;omega
theorem Κ(A:Bv disp)(hK:10000<K)(hn:X.S.g.D*X.S.g.Z=n)(hd:8<=d):∀(f i:Nat) (h:Ab),n-i<f->i<=n->C0 h B X F ->
 Ok (Ii (Ag TT disp K d false) (Ag TT disp K d true) K f (.ptr B.c 0) (I (X.Kw i)) (I n) (I i) h) fun v h'=>v=I (X.Kw n)/\Qt F h h':=by
 intro f;induction f with
 | zero=>intro i h hf;omega
 | succ f ih=>
  intro i h hf hi C;have bd:=C.sm.Ug;have W:=C.EF;rw[Ii];simp only[I,Ac];by_cases af:i<n
  ·have:decide ((i:Int)<(n:Int))=true:=by simp;omega
   simp only[this,Aa,EG];rw[C.ji];have ml:=wm (K:=K) C.map i;simp only[I]at ml;rw[ml,Au];refine(w8 A hK C hd (z:=i) ⟨by omega,by omega⟩).Am ?_;rintro _ h2 ⟨rfl,U⟩;have J:=(C.rd U).C;have nx:∀h' b,Qt F h h'->b=X.Kw (i+1)->Ok (Oz (Ag TT disp K d false) (Ag TT disp K d true) K (Ii (Ag TT disp K d false) (Ag TT disp K d true) K f) (.ptr B.c 0) (.int .i64 b) (.int .i64 (n:Int)) (.int .i64 (i:Int)) h') fun v h'=>v=I (X.Kw n)/\Qt F h h':=by
    intro h' b q hb;subst hb;simp only[Oz,Ac];rw[Cl,show((i:Nat):Int)+1=((i+1:Nat):Int) by omega];refine(ih (i+1) h' (by omega) (by omega) (C.rd q).C).mono ?_;rintro v h3 ⟨a,u⟩;exact⟨a,q.trans u⟩
   have no:X.jG i=false->X.Kw i=X.Kw (i+1):=fun E=>by
    rw[show X.Kw (i+1)=if X.jG i=true/\(X.Kw i = -1\/X.live i<X.live (X.Kw i))then(i:Int)else X.Kw i from rfl,aG (by rw[E];simp)]
   have lb:=EE W i;have vb:=X.w9 i;have ag:=EE W (X.Kw i);have ah:Er (.tuple []) false=false/\Er (.tuple []) true=false:=⟨rfl,rfl⟩;unfold Co.jG at no;show Ok (jj (.bool (X.closed i)) _) _;cases E:X.closed i with
   | false=>
    simp only[Aa,Ac,Oo,K0];exact nx _ _ U (no (by rw[E,av]))
   | true=>
   simp only[Aa,Ac];rw[J.ic];refine(Pe (K:=K) J.M J.hb).Am ?_;rintro _ h3 ⟨rfl,x3⟩;have u:=U.trans (Qt.ext x3 J.hb);have C3:=(C.rd u).C;unfold gV;rw[w_ (v:=I X.S.g.S) rfl];simp only[I,Ac];have hL:Ze X.S.g X.es i=X.live i:=rfl;rw[hL,Cl];by_cases h2:X.S.g.S<2*X.live i
   ·simp only[h2,aC,Aa,Ac,Oo,K0]
    exact nx _ _ u (no (by rw[E,aJ (by omega)];rfl))
   simp only[h2,aA,Aa,Ac,Oo];have wo:=Α (K:=K) A hK C3 (d:=d) hd i;simp only[I]at wo;refine wo.Am ?_;rintro _ h4 ⟨rfl,p⟩;have p:=u.trans p;have C4:=(C.rd p).C;cases hw:km X.S i X.es with
   | false=>
    simp only[Aa,Ac,K0];exact nx _ _ p (no (by rw[hw,dI,dI]))
   | true=>
   simp only[Aa,Ac,K0,EH];have o:X.jG i=true:=by unfold Co.jG;rw[E,hw,aM (by omega)];rfl
   by_cases O:X.Kw i = -1
   ·simp only[O,aC,Aa,Ac,Uk]
    exact nx _ _ p (by rw[show X.Kw (i+1)=if X.jG i=true/\(X.Kw i = -1\/X.live i<X.live (X.Kw i))then(i:Int)else X.Kw i from rfl,aI ⟨o,.inl O⟩])
   simp only[O,aA,Aa,Ac];rw[C4.ji];have ml:=wm (K:=K) C4.map (X.Kw i);simp only[I]at ml;rw[ml,Au];simp only[Ac,Uk];have V:Ze X.S.g X.es (X.Kw i)=X.live (X.Kw i):=rfl;rw[V];by_cases h3:X.live i<X.live (X.Kw i)
   ·simp only[h3,aC,Aa,Ac]
    exact nx _ _ p (by rw[show X.Kw (i+1)=if X.jG i=true/\(X.Kw i = -1\/X.live i<X.live (X.Kw i))then(i:Int)else X.Kw i from rfl,aI ⟨o,.inr h3⟩])
   ·simp only[h3,aA,Aa,Ac]
    exact nx _ _ p (by rw[show X.Kw (i+1)=if X.jG i=true/\(X.Kw i = -1\/X.live i<X.live (X.Kw i))then(i:Int)else X.Kw i from rfl,aG fun y=>y.2.elim O h3])
  ·have:decide ((i:Int)<(n:Int))=false:=by simp;omega
   have:i=n:=by omega
   subst this;simp only[Int.lt_irrefl,aA,Aa,EI];exact .ret ⟨rfl,Qt.refl C.hb⟩
theorem Λ(A:Bv disp)(hK:10000<K)(C:C0 h B X F)(hd:9<=d):Ok (Ag TT disp K d false 33 [.ptr B.c 0] h) fun v h'=>v=I (X.Kw (X.S.g.D*X.S.g.Z).toNat)/\Qt F h h':=by
 obtain⟨e,rfl⟩:∃k,d=k+1:=⟨d-1,by omega⟩;rw[Μ A (by omega)];simp only[EJ,Aa];rw[C.ic];refine rE A C fun h2 f=>?_
 have bd:=C.sm.Ug;obtain⟨n,o⟩:=bA (show 0<=X.S.g.D*X.S.g.Z by omega);rw[o,bF];refine(Κ A hK o (d:=e) (by omega) K 0 h2 (by omega) (by omega) (C.Y8 f).C).mono ?_;rintro v h3 ⟨a,p⟩;exact⟨a,(Qt.ext f C.hb).trans p⟩
end
theorem C0.lift(C:C0 h B X F):C0 h.lift B X F:=
 ⟨C.M.same (iO.lift _),by rw[Bx];exact C.core,by rw[Bx];exact C.ar,C.map.frame (Bx _ _) (Bx _ _) (Bx _ _),C.wf,C.out,C8 C.hb⟩
section
def EK(x:R)(h:Ab)(B:Cb)(X:Co)(F:Nat->Prop):Prop:=Ok x fun v h'=>∃(e:Int) (Y:Co),v=I e/\Ee h h' B X F Y
theorem EK.ret{e:Int}(c:Ee h h' B X F Y):EK (some (.int .i64 e,h')) h B X F:=Ok.ret ⟨e,Y,rfl,c⟩
theorem Ν(S:Mi)(z:Int):Mk S (S.iJ z):=⟨rfl,Dk.refl _⟩
section
variable (A:Bv disp)(hK:10000<K)(C:C0 h B X F)
include A hK C
end
end
section
section
variable {h2 h3:Ab}
theorem Ee.xh(x:Ext h h1)(c:Ee h1 h2 B X (Bk F h h1) Y)(t:Av T h2 h3)(f:∀i,T i->h.next<=i/\i<h1.next)(a:HB h3):Ee h h3 B X F Y:=
 ⟨(c.C.iI t (fun i hi _=>.inr (f i hi)) a).less fun _=>.inl,(x.ow c.k).then t fun i hi o=>by have:=f i hi;omega,c.ck⟩
end
section
variable (A:Bv disp)(hK:10000<K)
include A hK
end
end
section
theorem C0.same(C:C0 h B X F)(sm:iO h h'):C0 h' B X F:=
 ⟨C.M.same sm,by rw[sm.get];exact C.core,by rw[sm.get];exact C.ar,C.map.frame (sm.get _) (sm.get _) (sm.get _),C.wf,C.out,sm.hb C.hb⟩
theorem EL(a b c d:Int)(f:bl.length=32):jh (Df [(0,1),(1,1),(2,1),(3,1),(4,1),(5,1),(6,32)]) [(0,I a),(1,I b),(2,I c),(3,I d),(6,.agg (Bj bl))] En.zero.cells=some (⟨a,b,c,d,0,0,bl⟩:En).cells:=by
 have hs:=rI [I a,I b,I c,I d,I 0,I 0] (Bj Du) (Bj bl) (by rw[Bg,Bg,f,m']);rw[<-U7]at hs;show Bb (Nat.beq (Ga (Bj bl)) 32) (oB (fun z=>some z) (Mv ([I a,I b,I c,I d,I 0,I 0]++Bj Du) 6 (Bj bl))) none=_;rw[Bh,Bg,f,cQ,Ak];rw[show(6:Nat) = [I a,I b,I c,I d,I 0,I 0].length from rfl,hs];rfl
section
variable (A:Bv disp)(hK:10000<K)(C:C0 h B X F)
include C
include A hK
end
end
section
theorem Ee.less(c:Ee h h' B X G Y)(s:∀i,F i->G i):Ee h h' B X F Y:=⟨c.C.less s,c.k.less s,c.ck⟩
section
variable (A:Bv disp)(hK:10000<K)(C:C0 h B X F)
include A hK
include C
theorem Ξ {d:Int}:Rng (X.Kw (X.S.g.D*X.S.g.Z).toNat):=by
 have b:=X.w9 (X.S.g.D*X.S.g.Z).toNat;have:=C.sm.Ug;exact⟨by omega,by omega⟩
end
end
section
theorem Db.tR{S:Mi}(M:Db h m S F)(c:Av T h h')(t:∀i,T i->i<h.next->F i):Db h' m S (Bk F h h'):=by
 refine⟨(M.s.frame c.next fun i hi=>c.get i hi.1 fun y=>hi.2 (t i y hi.1)).mono (fun i hi=>⟨aN hi.1 c.next,fun y=>?_⟩) fun i hi=>hi.1,Bk.lt M.lt c.next,M.wf⟩;rcases y with y|y
 ·exact hi.2 y
 ·have:=hi.1;omega
theorem C0.tR(C:C0 h B X F)(c:Av T h h')(t:∀i,T i->i<h.next->F i)(a:HB h'):C0 h' B X (Bk F h h'):=by
 have f:=C.iI c t a;refine⟨(C.M.tR c fun i hi o=>.inl (t i hi o)).less fun i hi=>?_,f.core,f.ar,f.map,C.wf,fun i hi=>?_,a⟩
 ·rcases hi with(hi|hi)|hi
  ·exact .inl (.inl hi)
  ·exact .inr hi
  ·exact .inl (.inr hi)
 ·rcases hi with hi|hi
  ·exact C.out i hi
  ·intro y
   have p:=C.hb _ _ C.core;have u:=C.hb _ _ C.ar;have E:=C.hb _ _ C.map.map;have J:=C.hb _ _ C.map.row;have O:=C.hb _ _ C.map.live;rcases y with y|y|y|y|y<;>omega
structure Wr where
 block:Int
 bytes:List Nat
def Wr.Wf(w:Wr):Prop:=w.bytes.length=32/\∀b∈w.bytes,b<256
def Wr.cells(w:Wr):List EV:=I w.block::Bj w.bytes
theorem Wr.len {w:Wr}(f:w.Wf):w.cells.length=33:=by unfold Wr.cells;rw[bG,Bg,f.1]
structure jS(h:Ab)(v:EV)(b:Nat)(L:List Wr):Prop where
 row:(v=.Aq/\L = [])\/∃off r op,v=.slice b off L.length r op/\∀j (hj:j<L.length) (k:EV->R),Pg 33 (.ptr b (off+j*33)) h k=k (.agg L[j].cells)
 wf:∀w∈L,w.Wf
theorem jS.frame{L:List Wr}(r:jS h v b L)(e:0<L.length->h'.get b=h.get b):jS h' v b L:=by
 refine⟨?_,r.wf⟩;rcases r.row with y|⟨off,a,op,rfl,y⟩
 ·exact .inl y
 ·refine .inr ⟨off,a,op,rfl,fun j hj k=>?_⟩
  have:=y j hj k;show oB _ (mj (h'.get b) _ 33)=_;rw[e (by omega)];exact this
theorem jS.Hg{L:List Wr}(r:jS h v b L)(k:EV->R):Ev.Hg v k=k (I L.length):=by
 rcases r.row with⟨rfl,rfl⟩|⟨off,a,op,rfl,_⟩<;>rfl
theorem jS.at{L:List Wr}(r:jS h v b L)(hj:j<L.length)(k:EV->R):ir 33 v (.int .i64 (j:Int)) (fun p=>Pg 33 p h k)=k (.agg L[j].cells):=by
 rcases r.row with⟨rfl,rfl⟩|⟨off,a,op,rfl,y⟩
 ·exact absurd hj (cI _)
 ·rw[Mw hj];exact y j hj k
theorem xj: [EV.int .i64 0]++List.replicate 32 (EV.int .u8 0)=(⟨0,Du⟩:Wr).cells:=by kernel_rfl
theorem EM(C:C0 h B X F)(j:Int):Ok (Ux K (.ptr B.c 0) (I j) h) fun v h'=>v=.bool (decide (0<=j)&&decide (j<X.S.g.B))/\Ext h h':=by
 simp only[Ux,I,Ac,Aa];have a:Er (.tuple []) false=false/\Er (.tuple []) true=false:=⟨rfl,rfl⟩;by_cases h0:0<=j
 ·simp only[h0,aC,Aa,Ac]
  rw[C.ic];refine Ok.Am (Pe (K:=K) C.M C.hb) ?_;rintro _ h2 ⟨rfl,f⟩;unfold gV;rw[w_ (v:=I X.S.g.B) rfl];simp only[I,Ac,Aa,xk];exact .ret ⟨by simp,f⟩
 ·simp only[h0,aA,Aa,Ac,xk]
  exact .ret ⟨rfl,Av.refl _⟩
section
variable{L:List Wr}(fb:0<L.length->F b)(hL:L.length<=2000000)
include fb hL
end
structure EN(h:Ab)(s:EV)(q:Nat)(xs:List Me):Prop where
 row:Cd h s q 47 6 xs.length (xs.map Me.cells).flatten
 rng:∀x∈xs,Rng x.Al/\Rng x.Bf
section
variable (A:Bv disp)(hK:10000<K){L:List Wr}(fb:0<L.length->F b)(hL:L.length<=4)
include A hK fb hL
end
end
variable {L:List Wr}
section
theorem Ο(seq block many:Int):jh (Df [(0,1),(1,1),(2,1),(3,1),(4,1),(5,1),(6,32)]) [(0,I 2),(1,I seq),(2,I 1),(3,I block),(4,I many)] En.zero.cells=some (⟨2,seq,1,block,many,0,Du⟩:En).cells:=rfl
theorem Ρ:∀b∈Du,b<256:=fun b hb=>by rw[bO hb];decide
section
variable (A:Bv disp)(hK:10000<K)(C:C0 h B X F)
include A hK
include C
end
end
theorem Τ(hK:1000<K)(hb:HB h)(m:Nat):Ok (rJ K (.ptr m 0) h) fun v h'=>v=.ptr h.next 0/\h'.get h.next=some (.cells (arC m (fun _=>-1) fun _=>-1) 152)/\Ext h h'/\HB h':=by
 obtain⟨u,rfl⟩:∃k,K=k+4:=⟨K-4,by omega⟩;simp only[rJ,dr];rw[Ax (l:=arC m (fun _=>0) fun _=>0) rfl];simp only[Aa];have E:Ext h (h.new (.cells (arC m (fun _=>0) fun _=>0) 152)):=Av.new _ _;have J:(h.new (.cells (arC m (fun _=>0) fun _=>0) 152)).get h.next=some (.cells (arC m (fun _=>0) fun _=>0) 152):=Ad _ _
 have l1:h.next<(h.new (.cells (arC m (fun _=>0) fun _=>0) 152)).next:=aO _
 generalize h.new (.cells (arC m (fun _=>0) fun _=>0) 152)=h1 at E J l1⊢;have st:∀(i:Nat) (h2:Ab) (c o:Nat->Int) (n:Nat),i<3->h2.get h.next=some (.cells (arC m c o) 152)->Ext h h2->h.next<h2.next->(∀h3,h3.get h.next=some (.cells (arC m (Lu c i (-1)) (Lu o i (-1))) 152)->Ext h h3->h.next<h3.next->Ok (Sf (u+4) n (.ptr h.next 0) (I (i+1:Nat)) h3) fun v h'=>v=.ptr h.next 0/\h'.get h.next=some (.cells (arC m (fun _=>-1) fun _=>-1) 152)/\Ext h h'/\HB h')->Ok (Sf (u+4) (n+1) (.ptr h.next 0) (I i) h2) fun v h'=>v=.ptr h.next 0/\h'.get h.next=some (.cells (arC m (fun _=>-1) fun _=>-1) 152)/\Ext h h'/\HB h':=by
  intro i h2 c o n hi f p a U;rw[Sf];simp only[I,Ac];have:decide ((i:Int)<3)=true:=by simp;omega
  simp only[this,Aa,EO];rw[Ax (l:=[I (-1),I (-1)]) rfl]
  try simp only[Aa]
  rw[Xi hi];refine Ok.st _ f rfl rfl (wP hi (-1) (-1)) ?_;simp only[EP,Ac];rw[Cl,show((i:Nat):Int)+1=((i+1:Nat):Int) by omega];exact U _ (Ae _ _ _) (p.Ar (.inr (aE _)) a _) a
 refine st 0 h1 _ _ _ (by omega) J E l1 fun h2 f p a=>st 1 h2 _ _ _ (by omega) f p a fun h3 V W l3=>st 2 h3 _ _ _ (by omega) V W l3 fun h4 g4 O l4=>?_
 rw[Sf];simp only[I,Ac];simp only[show decide (((2+1:Nat):Int)<3)=false from rfl,Aa,ER];exact .ret ⟨rfl,g4,O,O.hb hb⟩
theorem ES(z:List EV):∀n,rep z n=(List.replicate n z).flatten
 | 0=>rfl
 | n+1=>by rw[eC,cJ,<-ES z n];rfl
theorem Υ(n:Nat):((List.replicate n (Me.nil 0)).map Me.cells).flatten=rep (List.replicate 6 (.int .i64 0)) n:=by
 rw[ES,gO];rfl
theorem ET(z:Int):∀n,Js (List.replicate n (Me.nil 0)) z=0
 | 0=>rfl
 | n+1=>by
  rw[eC,Pv,ET z n];unfold Vj;rw[aG (fun y=>by cases y.1)];rfl
theorem Φ(n m:Nat):((List.range n).map fun(z:Nat)=>I (Js (List.replicate m (Me.nil 0)) z))=rep [.int .i64 0] n:=by
 rw[xm];have:(fun(z:Nat)=>I (Js (List.replicate m (Me.nil 0)) z))=fun _=>EV.int .i64 0:=by funext z;rw[ET]
 rw[this,EU]
theorem EW(hr:rtB g=true)(hb:HB h):Ok (pR K (gV g) h) fun v h'=>∃b ml ll,v=.tuple [.ptr b 0,I 0]/\Ob h' b ml ll g (List.replicate g.B.toNat (Me.nil 0))/\Ext h h'/\HB h'/\h.next<=b/\h.next<=ml/\h.next<=ll:=by
 have s:=Ja hr;have:=s.b0;have:=s.b1;have:=s.d0;have:=s.d1;have:=s.z0;have:=s.z1;obtain⟨m0,m1⟩:=Q6 (a:=g.D) (b:=g.Z) (A:=8) (B:=64);simp only[pR,gV,Aa];obtain⟨h1,e_,O,g1,n1⟩:=nW h (.cells (gL g) 23);rw[e_];have U:=O.hb hb;rw[Cy g1 rfl,Aj (n:=6) rfl]
 try simp only[Aa]
 rw[show EV.agg (gL g)=gV g from rfl];refine(tS (K:=K) g h1).Am ?_;rintro _ h2 ⟨rfl,E⟩;have f:=E.hb U;have g2:=E.at U g1;have l2:=f _ _ g2;simp only[hr,Aa,EX];rw[Hb l2,Cy g2 rfl,Aj (n:=6) rfl];simp only[Aa,As];rw[Hb l2,Ai g2 rfl (v:=I g.B) rfl];simp only[Aa,As];have hB:I g.B=I (g.B.toNat:Int):=by rw[gG (by omega)]
 rw[hB,A' (by omega),Au];have J:Ext h2 (h2.new (.cells (rep (List.replicate 6 (.int .i64 0)) g.B.toNat) 47)):=Av.new _ _;have g3:(h2.new (.cells (rep (List.replicate 6 (.int .i64 0)) g.B.toNat) 47)).get h2.next=some (.cells (rep (List.replicate 6 (.int .i64 0)) g.B.toNat) 47):=Ad _ _
 have n3:(h2.new (.cells (rep (List.replicate 6 (.int .i64 0)) g.B.toNat) 47)).next=h2.next+1:=rfl
 have e3:([EV.int .i64 0,.int .i64 0,.int .i64 0,.int .i64 0,.int .i64 0,.int .i64 0]:List EV)=List.replicate 6 (.int .i64 0):=rfl;rw[e3];generalize h2.new (.cells (rep (List.replicate 6 (.int .i64 0)) g.B.toNat) 47)=h3 at J g3 n3⊢;have o:=J.hb f;have V:=J.at f g2;have l3:=o _ _ V;rw[Hb (show h.next<h2.next from l2),Cy V rfl,Aj (n:=6) rfl];simp only[Aa,As];rw[show EV.agg (gL g)=gV g from rfl];refine Ok.YA (P:=fun v h'=>v=I (g.D*g.Z)/\Ext (Hs 16 ⟨0,[(Nat.shiftLeft 1 3,h2.next)],[(Nat.shiftLeft 1 4,h.next),(Nat.shiftLeft 1 2,h.next),(Nat.shiftLeft 1 0,h.next)],[],[]⟩ h3) h') (by kernel_rfl) ?_ (fun _ _ p=>p.2) ?_
 ·rw[Nj s]
  exact .ret ⟨rfl,Av.new _ _⟩
 ·rintro _ aq h4 ⟨rfl,au⟩ eg en W
  have aa:=W.hb o;have ah:=W.at o g3;have hN:I (g.D*g.Z)=I ((g.D*g.Z).toNat:Int):=by rw[gG (by omega)]
  try simp only[Aa,As]
  rw[hN,A' (by omega),Au];obtain⟨h5,e_,x5,g5,n5⟩:=nW h4 (.cells (rep [.int .i64 0] (g.D*g.Z).toNat) 3);rw[e_];have u:=x5.hb aa;rw[Ax (l:=gL g++[.slice h2.next 0 g.B.toNat g.B.toNat false,.slice h4.next 0 (g.D*g.Z).toNat (g.D*g.Z).toNat false]) rfl];simp only[Aa,As];have x6:Ext h5 (h5.new (.cells (gL g++[.slice h2.next 0 g.B.toNat g.B.toNat false,.slice h4.next 0 (g.D*g.Z).toNat (g.D*g.Z).toNat false]) 115)):=Av.new _ _;refine .ret ⟨h5.next,h2.next,h4.next,rfl,⟨Ad _ _,by rw[Υ];exact x6.at u (x5.at aa ah),by rw[Φ];exact x6.at u g5,by rw[bV],fun x hx=>by rw[bO hx];unfold meR;rw[aI (.inl rfl)];exact aM rfl⟩,((((O.trans E).trans J).trans W).trans x5).trans x6,x6.hb u,?_,?_,?_⟩
  ·have:=O.next;have:=E.next;have:=J.next;have:=W.next;have:=x5.next;omega
  ·have:=O.next;have:=E.next;omega
  ·have:=O.next;have:=E.next;have:=J.next;have:=W.next;omega
noncomputable def Mi.ox(cur Br:Nat->Int)(S:Mi)(z:Int):Mi:=if Wy cur Br z=true then S else S.iJ z
noncomputable def Mi.jH(cur Br:Nat->Int)(S:Mi):Nat->Mi
 | 0=>S
 | n+1=>(Mi.jH cur Br S n).ox cur Br n
theorem Χ(cur Br:Nat->Int)(S:Mi)(z:Int):(S.ox cur Br z).bad=S.bad/\(S.ox cur Br z).g=S.g/\(S.ox cur Br z).dr=S.dr:=by
 unfold Mi.ox;split<;>exact⟨rfl,rfl,rfl⟩
theorem pT(cur Br:Nat->Int)(S:Mi):∀n,(S.jH cur Br n).bad=S.bad/\(S.jH cur Br n).g=S.g/\(S.jH cur Br n).dr=S.dr
 | 0=>⟨rfl,rfl,rfl⟩
 | n+1=>by
  obtain⟨a,b,c⟩:=Χ cur Br (S.jH cur Br n) n;obtain⟨d,e,f⟩:=pT cur Br S n;exact⟨a.trans d,b.trans e,c.trans f⟩
def Ff(g:Gm):Nat->Int:=Lu (Lu (Lu (fun _=>-1) 0 0) 1 g.Z) 2 (2*g.Z)
def Fh(g:Gm):Nat->Int:=Lu (Lu (Lu (fun _=>-1) 0 1) 1 (g.Z+1)) 2 (2*g.Z+1)
noncomputable def Co.start(g:Gm):Co:=⟨(Mi.new g).jH (Ff g) (Fh g) (g.D*g.Z).toNat,Ff g,Fh g,List.replicate g.B.toNat (Me.nil 0),0,1,1,false⟩
theorem xn(hr:rtB g=true):g.P+3<=g.Z:=by
 have s:=Ja hr;have h:2*g.B<=g.S*g.segments:=by
  unfold rtB at hr;simp only[aS,aV]at hr;exact hr.2.2
 have:=s.b0;have:=s.s0;have:=s.d0;have:=s.p0;have h1:1<=g.segments:=by
  rcases gX 0 g.segments with y|y
  ·omega
  ·have:g.S*g.segments<=g.S*0:=bT y (by omega)
   omega
 by_cases a:g.P+3<=g.Z
 ·exact a
 ·exfalso
  unfold Gm.segments at h1;have u0:(g.D-1)*(g.Z-g.P-2)<=0:=Int.mul_nonpos_of_nonneg_of_nonpos (by omega) (by omega);have f:0<=g.D*g.P:=dX (by omega) (by omega);have h2:g.least<=(g.D-1)*(g.Z-g.P-2)-g.E5+1:=Int.min_le_left _ _;unfold Gm.E5 at h2;omega
theorem Rn(s:Sm g){k:Int}(hi:(i:Int)<g.D:=by omega)(a:0<=k:=by omega)(f:k<g.Z:=by omega):Bp g (i*g.Z+k)=i:=by
 have:=s.z0;have h1:(0:Int)<=i*g.Z:=dX (by omega) (by omega);have h2:(i:Int)*g.Z+g.Z<=g.D*g.Z:=by
  have:((i:Int)+1)*g.Z<=g.D*g.Z:=fK (by omega) (by omega);rw[Int.add_mul,Int.one_mul]at this;exact this
 unfold Bp;rw[aG (by omega),Int.add_comm,Int.add_mul_ediv_right _ _ (by omega),Int.ediv_eq_zero_of_lt a f,Int.zero_add]
theorem Ψ {a:Nat}{z:Int}(h:Ab):rK K (.ptr m 0) (.ptr a 0) (.ptr b 0) (.agg [I x,I y,I z]) h=some (.ptr (h.next+1) 0,(h.new (.cells [I x,I y,I z] 69)).new (.cells [.ptr m 0,.ptr a 0,.ptr b 0,I x,I y,I z,.bool false] 109)):=by
 simp only[rK,Aa];rw[Cy (Ad _ _) rfl,Aj (n:=3) rfl]
 try simp only[Aa]
 rw[Ax (l:=[.ptr m 0,.ptr a 0,.ptr b 0,I x,I y,I z,.bool false]) rfl]
 try simp only[Aa]
 rfl
theorem Co.Ω(hr:rtB g=true):(Co.start g).Wf:=by
 have s:=Ja hr;have o:=xn hr;have:=s.d0;have:=s.p0;have:=s.z0;have:=s.s0;obtain⟨_,e2,e3⟩:=pT (Ff g) (Fh g) (Mi.new g) (g.D*g.Z).toNat;have a:(Co.start g).S.g=g:=e2;have d0:=Rn s (i:=0) (k:=0);have d1:=Rn s (i:=1) (k:=0);have d2:=Rn s (i:=2) (k:=0);have o0:=Rn s (i:=0) (k:=1);have o1:=Rn s (i:=1) (k:=1);have f:=Rn s (i:=2) (k:=1);refine⟨by rw[a];exact hr,⟨fun i hi=>.inr ?_,fun i hi=>.inr ?_⟩,?_⟩
 ·rw[a]
  rcases(show i=0\/i=1\/i=2 by omega)with rfl|rfl|rfl
  ·rw[<-d0];congr 1;show(0:Int)=_;omega
  ·rw[<-d1];congr 1;show g.Z=_;omega
  ·rw[<-d2];congr 1;show 2*g.Z=_;omega
 ·rw[a]
  rcases(show i=0\/i=1\/i=2 by omega)with rfl|rfl|rfl
  ·rw[<-o0];congr 1;show(1:Int)=_;omega
  ·rw[<-o1];congr 1;show g.Z+1=_;omega
  ·rw[<-f];congr 1
 ·show 0<(Co.start g).S.dr.dv.size
  rw[show(Co.start g).S.dr=(Mi.new g).dr from e3];show 0<g.S.toNat;omega
def z8(b:Nat):EV:=.int .u8 (Int.ofNat b)
theorem Bdy{v2 v3:Nat}(a:v2≠v3):∀(m i:Nat) (h:Ab),32-i<m->i<=32->HB h->h.get v2=some (.cells (List.replicate 32 (z8 0)) 49)->h.get v3=some (.cells (List.replicate i (z8 b)++List.replicate (32-i) (z8 0)) 49) ->
 Ok (U5 K m (z8 b) (.ptr v2 0) (.ptr v3 0) (I i) h) fun v h'=>v=.agg (List.replicate 32 (z8 b))/\Av (fun j=>j=v2\/j=v3) h h'/\HB h':=by
 intro m;induction m with
 | zero=>intro i h hm;omega
 | succ m U=>
  intro i h hm hi hb f o;rw[U5];simp only[I,Ac,Aa];by_cases p:i<32
  ·have:decide ((i:Int)<32)=true:=by simp;omega
   simp only[this,Aa,EY];rw[Xi p];simp only[Aa,bk];have J:=hb _ _ o;refine Ok.gT o rfl rfl (by simp;omega) ?_;simp only[EZ,Ac];rw[Cl,show((i:Nat):Int)+1=((i+1:Nat):Int) by omega];have V:((List.replicate i (z8 b)++List.replicate (32-i) (z8 0)).set i (z8 b))=List.replicate (i+1) (z8 b)++List.replicate (32-(i+1)) (z8 0):=by
    rw[eH _ _ (by simp),bV,fT,show 32-i=(32-(i+1))+1 by omega,eC,List.set_cons_zero,List.replicate_succ',bY];rfl
   rw[V];refine(U (i+1) _ (by omega) (by omega) (hb.put J _) (by rw[Af _ (cY a)];exact f) (Ae _ _ _)).mono ?_;rintro v h' ⟨rfl,c,u⟩;exact⟨rfl,((Av.refl (S:=fun j=>j=v2\/j=v3) h).Ar (.inl (.inr rfl)) J _).trans c,u⟩
  ·have:decide ((i:Int)<32)=false:=by simp;omega
   have E:i=32:=by omega
   subst E;simp only[this,Aa,E_];rw[Cy o rfl,Aj (n:=32) (by simp)];simp only[Aa];have O:=hb _ _ f;refine Ok.st (List.replicate 32 (z8 b)) f rfl rfl (Bn rfl) ?_;rw[Qz (Ae _ _ _) jv.1 jv.2 rfl];exact .ret ⟨rfl,(Av.refl (S:=fun j=>j=v2\/j=v3) h).Ar (.inl (.inl rfl)) O _,hb.put O _⟩
theorem Bmp(hK:100<K)(b:Nat)(hb:HB h):Ok (tV K (z8 b) h) fun v h'=>v=.agg (Bj (List.replicate 32 b))/\Ext h h'/\HB h':=by
 simp only[tV,Aa];rw[show(h.new (.cells (List.replicate 32 (EV.int .u8 0)) 49)).next=h.next+1 from rfl];have f:Ext h ((h.new (.cells (List.replicate 32 (EV.int .u8 0)) 49)).new (.cells (List.replicate 32 (EV.int .u8 0)) 49)):=(Av.new _ _).Da _;have o:((h.new (.cells (List.replicate 32 (EV.int .u8 0)) 49)).new (.cells (List.replicate 32 (EV.int .u8 0)) 49)).get h.next=some (.cells (List.replicate 32 (z8 0)) 49):=by
  rw[Ay _ (aO _)];exact Ad _ _
 have p:((h.new (.cells (List.replicate 32 (EV.int .u8 0)) 49)).new (.cells (List.replicate 32 (EV.int .u8 0)) 49)).get (h.next+1)=some (.cells (List.replicate 0 (z8 b)++List.replicate (32-0) (z8 0)) 49):=Ad _ _;refine(Bdy (K:=K) (b:=b) (v2:=h.next) (v3:=h.next+1) (by omega) K 0 _ (by omega) (by omega) (f.hb hb) o p).mono ?_;rintro v h' ⟨rfl,c,a⟩;refine⟨?_,f.then c fun i hi u=>?_,a⟩
 ·unfold Bj;rw[gO];rfl
 ·rcases hi with hi|hi<;>omega
theorem Y6.Bc {e:Y6}(w:e.Wf):e.cells.length=68:=by
 unfold Y6.cells;rw[aF,w.len];rfl
structure rM where
 kind:Int
 x:Int
 y:Int
 bl:EV
 bq:Nat
 bs:List Int
 ev:Y6
def rM.cells(o:rM):List EV:=[I o.kind,I o.x,I o.y,o.bl]++o.ev.cells
theorem rM.len {o:rM}(w:o.ev.Wf):o.cells.length=72:=by
 unfold rM.cells;rw[aF,Y6.Bc w];rfl
def wb(n:Int):Nat:=(n%256).toNat
theorem Bta(n:Int):wb n<256:=by unfold wb;omega
theorem Br7(a:Int)(f:bl.length=32):jh (Df [(0,1),(1,32)]) [(0,I a),(1,.agg (Bj bl))] ([EV.int .i64 0]++List.replicate 32 (.int .u8 0))=some (⟨a,bl⟩:Wr).cells:=by
 have hs:=rI [I a] (List.replicate 32 (EV.int .u8 0)) (Bj bl) (by rw[Bg,f];simp);rw[<-U7]at hs;show Bb (Nat.beq (Ga (Bj bl)) 32) (oB (fun z=>some z) (Mv ([I a]++List.replicate 32 (EV.int .u8 0)) 1 (Bj bl))) none=_;rw[Bh,Bg,f,cQ,Ak];rw[show(1:Nat) = [I a].length from rfl,hs];rfl
end Go.Ev
