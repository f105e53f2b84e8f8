import Derived.Test.YtoihakbgidodkaaGreatYa
set_option linter.all false
namespace Go.Ev
noncomputable section
open Go.Proofs
set_option maxRecDepth 100000
variable {h h' h0 h1 h2:Ab}{K P b d i j m n q t ar b2 ml sz:Nat}{es:List Me}{xs:List EV}{kk:Ab->R}{Q:Int->Prop}{v y e' ep mt sq zn:Int}{D:Dv}{F:Nat->Prop}{k:EV->Ab->R}{e:TypeId}{T:Mi}{tm:Ay}{L:List Fr}{Le:List Jj}{c0 c1 o0 o1 cur:Nat->Int}{B:Mi × Int × Int}{disp:Nat->Option FT}
instance:DecidableEq Me:=fun a b=>by
 cases a;cases b;simp only[Me.mk.injEq];exact inferInstance
def Me.nil(s:Int):Me:=⟨s,0,0,0,0,0⟩
def meR(g:Gm)(x:Me):Bool:=if x.state=0\/x.state=2 then decide (x=Me.nil x.state)else if x.state=1 then meB g x else false
def ic(z:Int)(x:Me):Int:=if x.state=1/\(x.Ai=z\/x.Bj=z)then 1 else 0
def Uq(es:List Me)(z:Int):Int:=(es.map (ic z)).foldr (· + ·) 0
theorem U6(x:Me)(es:List Me)(z:Int):Uq (x::es) z=ic z x+Uq es z:=rfl
theorem uW(z:Int)(x:Me):0<=ic z x/\ic z x<=1:=by unfold ic;split<;>omega
theorem pH(z:Int):∀es:List Me,0<=Uq es z/\Uq es z<=es.length
 | []=>⟨Int.le_refl _,Int.le_refl _⟩
 | x::es=>by
  have:=pH z es;have:=uW z x;rw[U6,bP];omega
theorem yF(z:Int)(y:Me):∀(es:List Me) (j:Nat) (hj:j<es.length),Uq (es.set j y) z=Uq es z-ic z es[j]+ic z y
 | x::es,0,_=>by
  rw[List.set_cons_zero,U6,U6];show ic z y+Uq es z=ic z x+Uq es z-ic z x+ic z y;omega
 | x::es,j+1,hj=>by
  have a:j<es.length:=by simpa using hj
  rw[List.set_cons_succ,U6,U6,yF z y es j a];show _=ic z x+Uq es z-ic z es[j]+ic z y;omega
structure Qs(h:Ab)(b ml ll:Nat)(g:Gm)(es:List Me):Prop where
 map:h.get b=some (.cells (gL g++[.slice ml 0 g.B.toNat g.B.toNat false,.slice ll 0 (g.D*g.Z).toNat (g.D*g.Z).toNat false]) 147)
 row:h.get ml=some (.cells (es.map Me.cells).flatten 87)
 live:h.get ll=some (.cells ((List.range (g.D*g.Z).toNat).map fun(z:Nat)=>I (Uq es z)) 3)
 len:es.length=g.B.toNat
 ok:∀x∈es,meR g x=true
theorem Qs.frame{ll:Nat}{g:Gm}(m:Qs h b ml ll g es)(e1:h'.get b=h.get b)(e2:h'.get ml=h.get ml)(e3:h'.get ll=h.get ll):Qs h' b ml ll g es:=⟨by rw[e1];exact m.map,by rw[e2];exact m.row,by rw[e3];exact m.live,m.len,m.ok⟩
theorem Qs.ext{ll:Nat}{g:Gm}(m:Qs h b ml ll g es)(e:∀i o,h.get i=some o->h'.get i=some o):Qs h' b ml ll g es:=⟨e _ _ m.map,e _ _ m.row,e _ _ m.live,m.len,m.ok⟩
theorem yG:∀(l:List (List EV)) (j:Nat) (x:List EV),(∀x∈l,x.length=n)->l[j]? = some x->Ly l.flatten (j*n) n=some x:=by
 have len:∀l:List (List EV),(∀x∈l,x.length=n)->l.flatten.length=l.length*n:=fun l=>by
  induction l with
  | nil=>intro _;simp
  | cons a r o=>intro h;rw[b9,aF,h a (aQ ..),o fun x f=>h x (aP _ f),bP,fD];omega
 intro l j x p f;have hj:=(aZ.1 f).1;rw[Eg (by rw[len l p];have:=Nat.mul_le_mul_right n (show j+1<=l.length from hj);rw[fD]at this;exact this)];congr 1;induction l generalizing j with
 | nil=>cases f
 | cons a r o=>
  have u:=p a (aQ ..);cases j with
  | zero=>
   rw[bR]at f;cases f;rw[fT,cZ,b9,<-u,dM]
  | succ j=>
   rw[cC]at f;rw[b9,fD,show j*n+n=a.length+j*n from a_,<-cV,dD];exact o j (fun x f=>p x (aP _ f)) f (aZ.1 f).1
theorem rG(es:List Me)(hj:j<es.length):Ly (es.map Me.cells).flatten (j*6) 6=some es[j].cells:=
 yG (n:=6) (es.map Me.cells) j es[j].cells (fun y a=>by obtain⟨z,_,rfl⟩:=cN.1 a;rfl) (by rw[bB,aE hj];rfl)
def hU(es:List Me)(j:Int):Me × Int:=if 0<=j/\j<es.length then((es[j.toNat]?).getD (Me.nil 0),0)else(Me.nil 0,13)
theorem Ok.uX{z:List EV}{Q:EV->Ab->Prop}(f:h.get i=some (.cells z t))(o:z.length=n)(a:xs.length=n)(hk:Ok (kk (h.put i (.cells xs t))) Q):Ok (f_ n (.ptr i 0) (.agg xs) h kk) Q:=
 Ok.st xs f rfl (by show Fp xs=n;rw[Bb,a]) (Bn (by show z.length=xs.length;rw[a,o])) hk
theorem Zu{ll:Nat}{g:Gm}(s:Sm g)(m:Qs h b ml ll g es)(hb:HB h)(j:Int):Ok (K4 K (.ptr b 0) (I j) h) fun v h'=>v=.tuple [.agg (hU es j).1.cells,I (hU es j).2]/\Ext h h':=by
 have:=s.b0;have:=s.b1;simp only[K4,I,Aa,Ac];rw[show[EV.int .i64 0,.int .i64 0,.int .i64 0,.int .i64 0,.int .i64 0,.int .i64 0]=(Me.nil 0).cells from rfl];obtain⟨h1,E,a,p,_⟩:=nW h (.cells (Me.nil 0).cells 87);rw[E];have f:=a.hb hb;have u:=a.at hb m.map;have G:=a.at hb m.row;have J:=f _ _ p;have st:∀(x:Me) (e:Int),Ok (f_ 6 (.ptr h.next 0) (.agg x.cells) h1 fun o=>Iq TT [.c (.ptr h.next 0) 87,.v (.int .i64 e)] o) fun v h'=>v=.tuple [.agg x.cells,I e]/\Ext h h':=by
  intro x e;refine Ok.uX p rfl rfl ?_;rw[Fi (Ae _ _ _) kz.1 kz.2 rfl];exact .ret ⟨rfl,a.Aq (.inr (aD _)) J _⟩
 unfold hU;by_cases c0:j<0
 ·have O:E4 (.tuple []) false=false/\E4 (.tuple []) true=false:=⟨rfl,rfl⟩
  simp only[c0,aB,Aa,Ac,uY];rw[Ax (l:=(Me.nil 0).cells) rfl,aH a_];exact st _ 13
 simp only[c0,aA,Aa,Ac];rw[Al u rfl (v:=.slice ml 0 g.B.toNat g.B.toNat false) rfl];rw[show ∀k:EV->R,Gi (.slice ml 0 g.B.toNat g.B.toNat false) k=k (I g.B.toNat)from fun _=>rfl];simp only[I,Ac,Aa,uY];have hlen:=m.len;by_cases U:j<g.B
 ·obtain⟨n,rfl⟩:=bD (show 0<=j from a_)
  have C:n<es.length:=a_
  have:decide ((n:Int)≥(g.B.toNat:Int))=false:=by simp;omega
  simp only[this,Aa,yH];rw[Al u rfl (v:=.slice ml 0 g.B.toNat g.B.toNat false) rfl,Lg a_,bJ,Cu G rfl (rG es C),aK a_];rw[show(es[(n:Int).toNat]?).getD (Me.nil 0)=es[n] by rw[bF,aE C];rfl];exact st _ 0
 ·have:decide ((j:Int)≥(g.B.toNat:Int))=true:=by simp;omega
  simp only[this,Aa];rw[Ax (l:=(Me.nil 0).cells) rfl,aH a_];exact st _ 13
def mg(g:Gm)(es:List Me)(z:Int):Int:=if 0<=z/\z<g.D*g.Z then Uq es z else 0
theorem uZ(n:Nat)(f:Int->Int)(hj:j<n:=by omega):((List.range n).map fun(z:Nat)=>I (f z))[j]? = some (I (f j)):=by
 rw[bB,cB hj];rfl
theorem u5{ll:Nat}{g:Gm}(m:Qs h b ml ll g es)(z:Int):Qq K (.ptr b 0) (I z) h=some (I (mg g es z),h):=by
 simp only[Qq,I,Aa,Ac];unfold mg;by_cases c0:z<0
 ·simp only[c0,aB,Aa,Ac,Zy]
  rw[aH a_]
 simp only[c0,aA,Aa,Ac];rw[Al m.map rfl (v:=.slice ll 0 (g.D*g.Z).toNat (g.D*g.Z).toNat false) rfl];rw[show ∀k:EV->R,Gi (.slice ll 0 (g.D*g.Z).toNat (g.D*g.Z).toNat false) k=k (I (g.D*g.Z).toNat)from fun _=>rfl];simp only[I,Ac,Aa,Zy];by_cases a:z<g.D*g.Z
 ·obtain⟨n,rfl⟩:=bD (show 0<=z from a_)
  have:decide ((n:Int)≥((g.D*g.Z).toNat:Int))=false:=by simp;omega
  simp only[this,Aa,yI];rw[Al m.map rfl (v:=.slice ll 0 (g.D*g.Z).toNat (g.D*g.Z).toNat false) rfl,Lg a_,bJ,br,Al m.live rfl (uZ (g.D*g.Z).toNat (Uq es) (j:=n)),aK a_]
 ·have:decide ((z:Int)≥((g.D*g.Z).toNat:Int))=true:=by simp;omega
  simp only[this,Aa];rw[aH a_]
theorem yJ:∀(l l':List Int),l.length=l'.length->Fk (l.map I) (l'.map I)=some (decide (l=l'))
 | [],[],_=>rfl
 | a::l,b::l',h=>by
  have f:=yJ l l' (by simpa using h);rw[dH,dH];unfold Fk;rw[pI];by_cases h1:a=b
  ·subst h1
   rw[aR rfl];simp only[f,List.cons.injEq,gF]
  ·rw[aU h1]
   simp only[f];rw[aU fun y=>h1 (List.cons.inj y).1]
def Me.row(x:Me):List Int:=[x.state,x.Ai,x.Bj,x.off,x.seq,x.sum]
theorem Me.SI {x y:Me}:x.row=y.row↔x=y:=by
 cases x;cases y;simp[Me.row]
theorem SJ(x y:Me)(k:EV->R):K1 iH (bin TT .eql 87) (.agg x.cells) (.agg y.cells) k=k (.bool (decide (x=y))):=by
 have he:TT.eqs 87=some [0,0,0,0,0,0]:=by kernel_rfl
 have h1:jI TT 87 (.agg x.cells) (.agg y.cells)=some (decide (x=y)):=by
  show(match TT.eqs 87 with|some sh=>Bc (shaped sh x.cells) (Fk x.cells y.cells) none|none=>none)=_;rw[he];simp only;rw[show shaped [0,0,0,0,0,0] x.cells=true from rfl,Aj,show x.cells=x.row.map I from rfl,show y.cells=y.row.map I from rfl,yJ x.row y.row rfl];congr 1;rw[eU];exact Me.SI
 show oB k (match jI TT 87 (.agg x.cells) (.agg y.cells)with|some b=>some (EV.bool b)|none=>none)=_;rw[h1];rfl
theorem SK {g:Gm}{x:Me}(hb:HB h)(o:x.state=1->Vp x.Ai/\Vp x.Bj):Ok (I9 K (.agg x.cells) (gV g) h) fun v h'=>v=.bool (meR g x)/\Ext h h':=by
 unfold meR;by_cases s1:x.state=1
 ·rw[aH a_,aK s1]
  exact yK hb s1 (o s1).1 (o s1).2
 ·simp only[I9,gV,Aa]
  have f:Ext h ((h.new (.cells x.cells 87)).new (.cells (gL g) 23)):=(As.new _ _).Dn _;have a:((h.new (.cells x.cells 87)).new (.cells (gL g) 23)).get h.next=some (.cells x.cells 87):=by
   rw[Ba _ (aT _)];exact Ad _ _
  generalize (h.new (.cells x.cells 87)).new (.cells (gL g) 23)=h1 at f a⊢;rw[Al a rfl (v:=I x.state) rfl];simp only[I,Ac];have eq:∀s,x.state=s->Ok (Kt K (.ptr h.next 0) (.ptr (h.next+1) 0) (.int .i64 s) (.bool true) h1) fun v h'=>v=.bool (decide (x=Me.nil x.state))/\Ext h h':=fun s hs=>by
   simp only[Kt,Aa];rw[Cz a rfl,Ak (n:=6) rfl]
   try simp only[Aa]
   rw[Al a rfl (v:=I x.state) rfl]
   try simp only[Aa]
   rw[Ax (l:=(Me.nil x.state).cells) rfl,SJ];exact .ret ⟨rfl,f⟩
  by_cases h0:x.state=0
  ·rw[aK (.inl h0)]
   simp only[h0,aB,Aa];have:=eq 0 h0;rw[h0]at this;exact this
  ·by_cases h2:x.state=2
   ·rw[aK (.inr h2)]
    simp only[h2,show ¬((2:Int)=0) from c_,aA,aB,Aa];have:=eq 2 h2;rw[h2]at this;exact this
   ·rw[aH a_,aH s1]
    simp only[h0,s1,h2,aA,Aa,Kt,Ac,yL];exact .ret ⟨rfl,f⟩
theorem SL {α:Type}(f:Nat->α)(n j:Nat)(v:α):((List.range n).map f).set j v=(List.range n).map fun z=>if z=j then v else f z:=by
 apply dP;intro i;rw[cR,bB,bB];by_cases hi:i<n
 ·rw[cB hi]
  by_cases hj:j=i
  ·subst hj;simp[hi]
  ·simp[hj,cX hj]
 ·rw[cD (by simpa using hi)]
  simp only[bT,eQ];split
  ·rw[aH a_];rfl
  ·rfl
theorem SM {g:Gm}{x:Me}(h:meR g x=true)(h1:x.state=1):(0<=x.Ai/\x.Ai<g.D*g.Z)/\(0<=x.Bj/\x.Bj<g.D*g.Z)/\¬x.Ai=x.Bj:=by
 unfold meR at h;rw[aH a_,aK h1]at h;unfold meB Mn at h;simp only[aX,Gd,aW]at h;obtain⟨⟨_,⟨a,b⟩,_⟩,⟨_,⟨c,d⟩,_⟩,e,_⟩:=h;exact⟨⟨a,a_⟩,⟨c,a_⟩,fun y=>e (by rw[y])⟩
def ox(f:Int->Int)(z v:Int):Int->Int:=fun y=>if y=z then v else f y
theorem yM(n:Nat)(f:Int->Int)(j:Nat)(v:Int):((List.range n).map fun(z:Nat)=>I (f z)).set j (I v)=(List.range n).map fun(z:Nat)=>I (ox f j v z):=by
 rw[SL];congr 1;funext z;unfold ox;by_cases h:z=j
 ·rw[aK h,aK a_]
 ·rw[aH h,aH a_]
theorem yN {g:Gm}{ll:Nat}(hn:g.D*g.Z=n)(ad:n<=512)(hm:h.get b=some (.cells (gL g++[.slice ml 0 g.B.toNat g.B.toNat false,.slice ll 0 n n false]) 147)){f:Int->Int}(hl:h.get ll=some (.cells ((List.range n).map fun(z:Nat)=>I (f z)) 3))(hb:HB h){x:Me}(hx:meR g x=true){by':Int}(af:by'=1\/by' = -1)(bd:∀z,-1000<=f z/\f z<=1000):
 Ok (St K (.ptr b 0) (.agg x.cells) (I by') h) fun v h'=>v=.tuple []/\h'.get ll=some (.cells ((List.range n).map fun(z:Nat)=>I (f z+by'*ic z x)) 3)/\As (fun i=>i=ll) h h'/\HB h':=by
 simp only[St,Aa];obtain⟨h1,e_,J,V,_⟩:=nW h (.cells x.cells 87);rw[e_];have o:=J.hb hb;have W:=J.at hb hm;have O:=J.at hb hl;rw[Al V rfl (v:=I x.state) rfl];simp only[I,Ac];by_cases s1:x.state=1
 ·obtain⟨⟨a0,a1⟩,⟨c0,c1⟩,ne⟩:=SM hx s1
  obtain⟨j,hj⟩:=bD a0;obtain⟨k,hk⟩:=bD c0;have X:=o _ _ W;have Y:=o _ _ V;have p:=o _ _ O;have B1:=bd j;have B2:=bd k;simp only[s1,aB,Aa,Au];rw[Jg X,Al W rfl (v:=.slice ll 0 n n false) rfl]
  try simp only[Aa,Au]
  rw[Jg Y,Al V rfl (v:=I x.Ai) rfl,hj]
  try simp only[I,Aa,Au]
  rw[Lg a_,bJ,br,Jg p,Al O rfl (uZ n f (j:=j))];simp only[I,Ac,Au];rw[Cn,Lg a_,bJ,br,J1];refine Ok.gK O rfl rfl (by simp;omega) ?_;have u:(h1.put ll (.cells (((List.range n).map fun(z:Nat)=>I (f z)).set j (I (f j+by'))) 3)).get ll=some (.cells ((List.range n).map fun(z:Nat)=>I (ox f j (f j+by') z)) 3):=by rw[Ae,yM]
  have U:As (fun i=>i=ll) h1 (h1.put ll (.cells (((List.range n).map fun(z:Nat)=>I (f z)).set j (I (f j+by'))) 3)):=(As.refl (S:=fun i=>i=ll) h1).Aq (.inl rfl) p _;have nb:b≠ll:=Bf W O (by intro y;injection y with _ y;cases y);have n4:h.next≠ll:=fun y=>by have:=hb _ _ hl;omega
  have E:=U.at o W nb;have G:=U.at o V n4;rw[show EV.int .i64 (f j+by')=I (f j+by')from rfl];generalize h1.put ll (.cells (((List.range n).map fun(z:Nat)=>I (f z)).set j (I (f j+by'))) 3)=h2 at u U E G⊢;have C:=U.hb o;have X:=C _ _ E;have Y:=C _ _ G;have p:=C _ _ u;have nk:¬(k:Int)=j:=a_
  have fk:ox f j (f j+by') k=f k:=by unfold ox;rw[aH nk]
  try simp only[Au]
  rw[Jg X,Al E rfl (v:=.slice ll 0 n n false) rfl]
  try simp only[Aa,Au]
  rw[Jg Y,Al G rfl (v:=I x.Bj) rfl,hk]
  try simp only[I,Aa,Au]
  rw[Lg a_,bJ,br,Jg p,Al u rfl (uZ n _ (j:=k)),fk];simp only[I,Ac,Au];rw[Cn,Lg a_,bJ,br,J1];refine Ok.gK u rfl rfl (by simp;omega) ?_;refine .ret ⟨rfl,?_,(J.to.trans U).Aq (.inl rfl) p _,C.put p _⟩;rw[Ae];have:(EV.int .i64 (f k+by'))=I (f k+by'):=rfl;rw[this,yM];congr 2;apply cY;intro z _;congr 1;unfold ox ic;rw[s1,hj,hk];by_cases e1:(z:Int)=k
  ·rw[aK e1,aK ⟨rfl,.inr e1.symm⟩,e1];omega
  ·rw[aH e1]
   by_cases e2:(z:Int)=j
   ·rw[aK e2,aK ⟨rfl,.inl e2.symm⟩,e2];omega
   ·rw[aH e2,aH (fun y=>y.2.elim (fun a=>e2 a.symm) fun a=>e1 a.symm)];omega
 ·simp only[s1,aA,Aa]
  refine .ret ⟨rfl,?_,J.to,o⟩;rw[O];congr 2;apply cY;intro z _;unfold ic;rw[aH (fun y=>s1 y.1),Int.mul_zero,Int.add_zero]
def jB(g:Gm)(es:List Me)(j:Int)(x:Me):List Me × Int:=if 0<=j/\j<es.length then(if meR g x=true then(es.set j.toNat x,0)else(es,10))else(es,13)
theorem rH{ll:Nat}{g:Gm}(s:Sm g)(m:Qs h b ml ll g es)(hb:HB h){x:Me}(hz:x.state=1->Vp x.Ai/\Vp x.Bj)(j:Int):
 Ok (Nh K (.ptr b 0) (I j) (.agg x.cells) h) fun v h'=>v=I (jB g es j x).2/\Qs h' b ml ll g (jB g es j x).1/\As (fun i=>i=ml\/i=ll) h h'/\HB h':=by
 have:=s.b0;have:=s.b1;have:=s.d0;have:=s.d1;have:=s.z0;have:=s.z1;obtain⟨m0,m1⟩:=Nz (a:=g.D) (b:=g.Z) (A:=8) (B:=64);simp only[Nh,Aa];obtain⟨h1,e_,x1,g5,_⟩:=nW h (.cells x.cells 87);rw[e_];have O:=x1.hb hb;have M1:=m.ext fun i o q=>x1.at hb q
 refine(Zu (K:=K) s M1 O j).Ao ?_;rintro _ h2 ⟨rfl,x2⟩;have Y:=x2.hb O;simp only[Aa];refine Ok.uX (Ad _ _) rfl rfl ?_;obtain⟨h3,e_,x3,g7,_⟩:=nP h2 (.cells [EV.int .i64 0,.int .i64 0,.int .i64 0,.int .i64 0,.int .i64 0,.int .i64 0] 87) (.cells (hU es j).1.cells 87);rw[e_];have u:=x3.hb Y;have U:Ext h h3:=(x1.trans x2).trans x3;have M3:=m.ext fun i o q=>U.at hb q
 have V:=x3.at Y (x2.at O g5);unfold jB;have hlen:=m.len;by_cases hj:0<=j/\j<es.length
 ·obtain⟨k,rfl⟩:=bD hj.1
  have hk:k<es.length:=a_
  have eg:hU es (k:Int)=(es[k],0):=by
   unfold hU;rw[aK hj,bF,aE hk];rfl
  rw[eg]at g7⊢;rw[aK hj];simp only[I,Ac,aC,aA,Aa,Au];have l5:=u _ _ V;have lb:=u _ _ M3.map;rw[Jg l5,Cz V rfl,Ak (n:=6) rfl]
  try simp only[Aa,Au]
  rw[Jg lb,Cu M3.map rfl (show Ly (gL g++[.slice ml 0 g.B.toNat g.B.toNat false,.slice ll 0 (g.D*g.Z).toNat (g.D*g.Z).toNat false]) 0 6=some (gL g)from rfl)]
  try simp only[Aa,Au]
  rw[show EV.agg (gL g)=gV g from rfl];refine Ok.bE (SK (K:=K) (g:=g) (x:=x) (Dj u) hz) (fun _ _ p=>p.2) ?_;rintro _ cb h4 ⟨rfl,_⟩ _ x4;have E:=x4.hb u;have W:Ext h h4:=U.trans x4;have G:=m.ext fun i o q=>W.at hb q
  by_cases hr:meR g x=true
  ·rw[aK hr,hr]
   simp only[Aa,yO];have az:=x4.at u g7;have a1:=x4.at u V;rw[Cz az rfl,Ak (n:=6) rfl]
   try simp only[Aa]
   have hn:g.D*g.Z=((g.D*g.Z).toNat:Int):=a_
   have bd:∀z,-1000<=Uq es z/\Uq es z<=1000:=fun z=>by have:=pH z es;omega
   refine(yN (K:=K) (ml:=ml) hn a_ G.map G.live E (x:=es[k]) (m.ok _ (bA hk)) (by':=-1) (.inr rfl) bd).Ao ?_;rintro _ h5 ⟨rfl,a2,c5,J⟩;have nb:b≠ll:=Bf G.map G.live (by intro y;injection y with _ y;cases y);have nm:ml≠ll:=Bf G.row G.live (by intro y;injection y with _ y;cases y);have a6:b≠ml:=Bf G.map G.row (by intro y;injection y with _ y;cases y);have aa:h.next≠ll:=fun y=>by have:=hb _ _ m.live;omega
   have cc:h.next≠ml:=fun y=>by have:=hb _ _ m.row;omega
   have ad:=c5.at E G.map nb;have a7:=c5.at E G.row nm;have ae:=c5.at E a1 aa;rw[Cz ae rfl,Ak (n:=6) rfl]
   try simp only[Aa]
   refine(yN (K:=K) (ml:=ml) hn a_ ad a2 J (x:=x) hr (f:=fun z=>Uq es z + -1*ic z es[k]) (by':=1) (.inl rfl) (fun z=>by
    show -1000<=Uq es z + -1*ic z es[k]/\Uq es z + -1*ic z es[k]<=1000;have:=pH z es;have:=uW z es[k];omega)).Ao ?_
   rintro _ h6 ⟨rfl,bb,c6,C⟩;have X:=c6.at J ad nb;have af:=c6.at J a7 nm;have ag:=c6.at J ae aa;have bf:=C _ _ X;have bj:=C _ _ ag;have bk:=C _ _ af
   try simp only[Au]
   rw[Jg bf,Al X rfl (v:=.slice ml 0 g.B.toNat g.B.toNat false) rfl]
   try simp only[Aa,Au]
   rw[Jg bj,Cz ag rfl,Ak (n:=6) rfl]
   try simp only[Aa,Au]
   rw[Lg a_,bJ,J1];have fs:Mf (es.map Me.cells).flatten (k*6) x.cells=some ((es.set k x).map Me.cells).flatten:=by
    rw[u6 (n:=6) (fun y hy=>by obtain⟨z,_,rfl⟩:=cN.1 hy;rfl) (by rw[bT];exact hk) rfl,List.map_set]
   refine Ok.st _ af rfl rfl fs ?_;have c7:As (fun i=>i=ml) h6 (h6.put ml (.cells ((es.set k x).map Me.cells).flatten 87)):=(As.refl (S:=fun i=>i=ml) h6).Aq (.inl rfl) bk _;have bo:=c7.at C X a6;have bp:=c7.at C bb (cX nm);refine .ret ⟨rfl,⟨bo,Ae _ _ _,?_,by rw[bM];exact hlen,fun y hy=>?_⟩,?_,c7.hb C⟩
   ·rw[bp]
    congr 2;apply cY;intro z _;rw[bF,yF z x es k hk];congr 1;omega
   ·rcases cj hy with y'|rfl
    ·exact m.ok _ y'
    ·exact hr
   ·exact(Ext.to W).trans (((c5.mono fun i e=>.inr e).trans (c6.mono fun i e=>.inr e)).trans (c7.mono fun i e=>.inl e))
  ·have bt:meR g x=false:=by cases h:meR g x<;>simp_all
   rw[aH hr,bt];simp only[Aa];exact .ret ⟨rfl,G,W.to,E⟩
 ·have eg:hU es j=(Me.nil 0,13):=by unfold hU;rw[aH hj]
  rw[eg,aH hj];simp only[I,Ac,show ¬((13:Int)=0) from c_,aG,aB,Aa];exact .ret ⟨rfl,M3,U.to,u⟩
theorem SN{z:Nat}{size:Int}{Z:Zn}(f:Fj h z q size Z)(hb:HB h):
 Ok (Gx K (.ptr z 0) h) fun v h'=>v=I (Jr Z.st)/\Fj h' z q size (if Jr Z.st=0 then Zn.empty else Z)/\As (fun i=>i=z) h h'/\HB h':=by
 obtain⟨s,g,r⟩:=f.Ai;have a:=hb _ _ g;simp only[Gx,Xe f,Aa,I,Ac];by_cases o:Jr Z.st=0
 ·simp only[o,aC,aA,Aa,bN,N9]
  refine Ok.gK g rfl rfl (by show 0<5;decide) ?_;refine Ok.gK (Ae _ _ _) rfl rfl (by show 2<5;decide) ?_;refine Ok.gK (Ae _ _ _) rfl rfl (by show 3<5;decide) ?_;refine Ok.gK (Ae _ _ _) rfl rfl (by show 4<5;decide) ?_;refine .ret ⟨rfl,⟨⟨.Am,Ae _ _ _,Ce.nil _ _ _ _⟩,fun x p=>by cases p⟩,((((As.refl (S:=fun i=>i=z) h).Aq (.inl rfl) a _).Aq (.inl rfl) a _).Aq (.inl rfl) a _).Aq (.inl rfl) a _,(((hb.put a _).put a _).put a _).put a _⟩
 ·simp only[o,aG,aB,Aa,ak]
  exact .ret ⟨rfl,f,As.refl _,hb⟩
def Dv.reset(D:Dv)(i:Int):Dv × Int:=
 if D.D8 i≠0 then(D,D.D8 i)else
 (if Jr (D.zs i.toNat).st=0 then D.tick.set i.toNat Zn.empty else D.tick,Jr (D.zs i.toNat).st)
theorem Zn.Wf.empty {size:Nat}(h:0<size):Zn.empty.Wf size:=⟨fun x a=>(by cases a),by show 0<=4;omega,aD _,cF _,fun _=>h⟩
theorem SO{V:Nat}(d:Hg h V D F)(hb:HB h)(hs:0<D.size)(i:Int):
 Ok (Q6 K (.ptr V 0) (I i) h) fun v h'=>v=I (D.reset i).2/\Hg h' V (D.reset i).1 (Bi F h h')/\As F h h'/\HB h':=by
 simp only[Q6,dr];refine(rI (K:=K) d hb i).Ao ?_;rintro _ h2 ⟨rfl,d2,c2,p,W⟩;unfold Dv.reset;by_cases f:D.D8 i=0
 ·rw[aH (by rw[f];exact fun y=>y rfl),f]
  have C:D.begin i=D.tick:=by unfold Dv.begin;rw[aK f]
  rw[C]at d2;obtain⟨j,rfl,hj⟩:=Dv.oy f;obtain⟨zl,z,q,a,b⟩:=d2.Mh;obtain⟨G,J⟩:=a.pJ (j:=j) hj;simp only[I,Ac,aC,aA,Aa,yP,a.list,G,J];refine(SN (K:=K) (a.Ai j hj) p).Ao ?_;rintro _ O ⟨rfl,E,c3,u⟩
  try simp only[Aa]
  rw[show(j:Int).toNat=j from rfl];have E:Fj O (z j) (q j) D.size (if Jr (D.zs j).st=0 then Zn.empty else D.zs j):=E;by_cases U:Jr (D.zs j).st=0
  ·simp only[U,bN]at E⊢
   obtain⟨d3,o⟩:=Hg.Ai d2.wf a b d2.lt p hj (Zn.Wf.empty hs) E (c3.mono fun _=>.inl) u (fun y=>absurd rfl y);refine .ret ⟨by rw[show Jr (D.tick.zs j).st=Jr (D.zs j).st from rfl,U],d3.mono (fun i hi=>?_) (Bi.lt d.lt (c2.trans o).next),c2.trans o,u⟩;rcases hi with y|y
   ·exact .inl y
   ·exact .inr ⟨bS c2.next y.1,y.2⟩
  ·simp only[U,ak]at E⊢
   obtain⟨d3,o⟩:=Hg.Ai d2.wf a b d2.lt p hj (d2.wf.zs j hj) E (c3.mono fun _=>.inl) u (fun y=>.inr ⟨rfl,y⟩);have e:D.tick.set j (D.zs j)=D.tick:=by
    unfold Dv.set;have:Ke D.tick.zs j (D.zs j)=D.tick.zs:=by funext k;unfold Ke;split<;>simp_all [Dv.tick]
    rw[this]
   have d3:Hg O V (D.tick.set j (D.zs j)) (Bi F h2 O):=d3;rw[e]at d3;refine .ret ⟨rfl,d3.mono (fun i hi=>?_) (Bi.lt d.lt (c2.trans o).next),c2.trans o,u⟩;rcases hi with y|y
   ·exact .inl y
   ·exact .inr ⟨bS c2.next y.1,y.2⟩
 ·rw[aK f]
  have C:D.begin i=D:=by unfold Dv.begin;rw[aH f]
  rw[C]at d2;simp only[I,Ac,f,aG,aB,Aa];exact .ret ⟨rfl,d2.grow d.lt c2.next,c2,p⟩
def Jp.reset(S:Jp)(i:Int):Jp × Int:=({ S.begin i with dv:=((S.begin i).dv.reset i).1 },((S.begin i).dv.reset i).2)
theorem SP(H:Cf disp)(hK:1000<K)(hd:14<=d){D:Nat}{S:Jp}{G:Nat->Prop}(f:lu disp K S)(s:Fm h D S G)(hb:HB h)(i:Int)(hs:0<(S.begin i).dv.size):
 Ok (Ag TT disp K d false 96 [.ptr D 0,I i] h) fun v h'=>v=I (S.reset i).2/\Fm h' D (S.reset i).1 (Bi G h h')/\As G h h'/\HB h':=by
 obtain⟨e,rfl⟩:=fc d;rw[SQ H a_];simp only[yQ,dr];refine(rJ (K:=K) H a_ f s hb i).Ao ?_;rintro _ h2 ⟨s2,c2,o⟩;unfold Jp.reset;generalize S.begin i=T at s2 hs⊢;obtain⟨V,M,qc,qh,cs,O,ms,F,a⟩:=s2.Mh;simp only[Aa,Cx a.Da rfl];refine(SO (K:=K) a.dev o hs i).Ao ?_;rintro _ U ⟨rfl,d3,c3,p⟩;obtain⟨W,u⟩:=s2.put a o d3 c3;have J:=W.u7 c2.next u.next s.lt
 have c4:=c2.grow u;simp only[I,Ac];by_cases he:(T.dv.reset i).2=0
 ·simp only[he,aB,Aa,Yg]
  have X:(T.dv.reset i).1.size<=64:=d3.wf.size;refine(SR (K:=K) i K 0 U (by show(T.dv.reset i).1.size-0<K;omega) J p).Ao ?_;rintro _ h5 ⟨Y,C,E⟩;simp only[Uc,dr];refine .ret ⟨by rw[<-he],Y.mono (fun j hj=>Bi.le C.next hj) (Bi.lt s.lt (bS c4.next C.next)),c4.grow C,E⟩
 ·simp only[he,aA,Aa,Uc]
  exact .ret ⟨rfl,J,c4,p⟩
theorem Ok.SS{s:DX}{call:Ab->R}{k:EV->Ab->DX->R}{P Q:EV->Ab->Prop}(hb:Afc b s=true)(C:Ok (call (Ks b s h)) P)(he:∀v h1,P v h1->Ext (Ks b s h) h1)
 (hk:∀v h1 h2,P v h1->(∀i,h2.get i=if i∈loose b s.nw then h.get i else h1.get i)->h2.next=h1.next->Ext h h2->Ok (k v h2 (s.big i)) Q):Ok (Ev.Mc i b s h call k) Q:=by
 obtain⟨v,h1,e,p⟩:=C;have x:=he v h1 p;have hm:h.next<=h1.mw:=x.mw h.next (aD _) (aD _) fun _ y=>y.elim
 have u:∀j,(Ks b s h).get j=if j∈loose b s.nw then none else h.get j:=fun j=>by rw[jq];exact(u9 _ _ _).trans (by rw[jq])
 have E:Ev.Mc i b s h call k=k v ⟨jU h.t h1.t (loose b s.nw),h1.next,h.mw⟩ (s.big i):=by
  show Bc (Afc b s) (Ev.Ao (call (Ks b s h)) fun v h'=>Pe i b s h h' fun s h=>k v h s) none=_;rw[hb,Aj,e];show Pe i b s h h1 (fun s h=>k v h s)=_;unfold Pe;rw[aO hm,Aj]
 rw[E];have f:∀j,(⟨jU h.t h1.t (loose b s.nw),h1.next,h.mw⟩:Ab).get j=if j∈loose b s.nw then h.get j else h1.get j:=fun j=>by
  rw[jq];exact(u_ _ _ _ _).trans (by rw[jq,jq])
 refine hk v h1 _ p f rfl ⟨fun j hj G=>?_,x.next,fun w w1 _ _=>w1,fun y q o a=>?_⟩
 ·rw[f]
  split
  ·rfl
  next J=>
   rw[x.get j hj G,u,aH J]
 ·rw[f]at a
  split at a
  ·exact aL (y q o a) x.next
  ·exact x.hb (fun q o a=>by
    rw[u]at a;split at a
    ·cases a
    ·exact y q o a) q o a
theorem vd {z:List EV}{e:Nat}(a:n<=65536)(h:Ab):Pr z e (I n) (I n) h=some (.slice h.next 0 n n false,h.new (.cells (rep z n) e)):=by
 show Bc (Nat.ble n n) (Bc (Nat.ble n 65536) _ none) none=_;rw[aO (aD _),Aj,aO a,Aj]
theorem yR:∀(By new:List EV),new.length<=By.length->Jf By new=some (new++By.drop new.length)
 | By,[],_=>by cases By<;>rfl
 | [],b::r,h=>by simp at h
 | a::By,b::r,h=>by
  show(match Jf By r with|some x=>some (b::x)|none=>none)=_;rw[yR By r (by simpa using h)];rfl
theorem SU{r:Nat}{op:Bool}{t:TypeId}{By new:List EV}{y:EV}(g:h.get i=some (.cells By t))(o:lenOf y=some n)(u:0<n)(hm:n<=m)(f:Lm h 1 n y=some new)(p:new.length=n)(C:By.length=m):
 builtin TT .copy #[106,106] [.slice i 0 m r op,y] h=some (I n,h.put i (.cells (new++By.drop n) t)):=by
 have hu:TT.T6 106=some (.slice 5):=by kernel_rfl
 have hs:TT.size 5=some 1:=by kernel_rfl
 have hb:Nat.ble n m=true:=aO hm;have h0:Nat.beq n 0=false:=by cases n with|zero=>omega|succ n=>rfl
 have hw:L9 h i 0 new=some (h.put i (.cells (new++By.drop n) t)):=by
  unfold L9;rw[g];simp only;have:Fw By 0 new=Jf By new:=by cases By<;>rfl
  rw[this,yR By new a_,p]
 rw[rK]at f;have a:lenOf (.slice i 0 m r op)=some m:=rfl;unfold builtin;simp only[hu,hs,a,o,hb,Aj,h0,Bo,f,hw];rfl
structure ve(h:Ab)(P t:Nat)(out:List Nat)(S:Nat->Prop):Prop where
 Mh:∃s q,h.get P=some (.cells [s,.bool false] t)/\Ce h s q 5 1 out.length (Be out)/\(0<out.length->P≠q/\S q)
 own:S P
theorem SV {w:Nat}{a:Nat}(G:a<9223372036854775808)(hw:w<=7){out:List Nat}(J:out.length<=60000){S:Nat->Prop}(h0:Ab)(hS:∀i,h0.next<=i->S i):∀(m i:Nat) (h:Ab),w-i<m->i<=w->HB h->As S h0 h->ve h P t (out++Tf i a) S ->
 Ok (Ja K m (.ptr P 0) (Nk .i64 (a/256^i)) (I w) (I i) h) fun _ h'=>ve h' P t (out++Tf w a) S/\As S h0 h'/\HB h':=by
 intro m;induction m with
 | zero=>intro i h hm;omega
 | succ m C=>
  intro i h hm hi hb c p;obtain⟨s,q,g,r,l⟩:=p.Mh;simp only[Ja,I,Ac,Aa];by_cases f:(i:Int)<w
  ·simp only[f,aB,Aa,Zh,Cx g rfl]
   rw[wrap_u8];have hlen:(out++Tf i a).length=out.length+i:=by rw[aF,Gn]
   refine Ny (z:=[.int .u8 0]) r hb rfl rfl rfl a_ a_ ?_;intro h2 E O c2;have o:=c2.at hb g fun y=>(l y.1).1 y.2
   have u:=(c2.hb hb) _ _ o;refine Ok.gK o rfl rfl (by show 0<2;decide) ?_;rw[pK];simp only[Zj,I,Ac];rw[Cn,eX,<-eI];have c3:As S h (h2.put P (.cells ([s,EV.bool false].set 0 (.slice (h.next+1) 0 ((out++Tf i a).length+1) ((out++Tf i a).length+1) true)) t)):=(c2.mono fun j hj=>hj.2▸(l hj.1).2).Aq (.inl p.own) u _;refine C (i+1) _ a_ a_ ((c2.hb hb).put u _) (c.trans c3) ?_;rw[vf,<-bm];have lt:=hb _ _ g;refine⟨⟨_,h.next+1,Ae _ _ _,?_,fun _=>⟨a_,hS _ (by have:=c.next;omega)⟩⟩,p.own⟩;have e1:((out++Tf i a)++[a/256^i%256]).length=(out++Tf i a).length+1:=by rw[aF];rfl
   have e2:Be ((out++Tf i a)++[a/256^i%256])=Be (out++Tf i a)++EV.cells (Nk .u8 (a/256^i%256)):=by rw[pL];rfl
   rw[e1,e2];exact E.frame fun _=>Af _
  ·have:i=w:=a_
   subst this;simp only[f,aA,Aa];exact .ret ⟨p,c,hb⟩
def iA(h:Ab)(P n:Nat)(S:Nat->Prop):Prop:=∃out,ve h P 222 out S/\out.length=n/\∀b∈out,b<256
theorem iA.chg{S T:Nat->Prop}(p:iA h P n S)(hb:HB h)(c:As T h h')(no:∀i,S i->i<h.next->¬T i):iA h' P n S:=by
 obtain⟨out,⟨⟨s,q,g,r,l⟩,o⟩,b⟩:=p;exact⟨out,⟨⟨s,q,c.at hb g (no _ o (hb _ _ g)),r.frame fun y=>c.get _ (hb _ _ (r.block y)) (no _ (l y).2 (hb _ _ (r.block y))),l⟩,o⟩,b⟩
theorem iA.mono{S T:Nat->Prop}(p:iA h P n S)(s:∀i,S i->T i):iA h P n T:=by
 obtain⟨out,⟨⟨e,q,g,r,l⟩,o⟩,b⟩:=p;exact⟨out,⟨⟨e,q,g,r,fun y=>⟨(l y).1,s _ (l y).2⟩⟩,s _ o⟩,b⟩
def vg(S:Nat->Prop)(h:Ab):Nat->Prop:=fun i=>S i\/h.next<=i
theorem SW {w:Nat}{S:Nat->Prop}(hK:1000<K)(p:iA h P n S)(hb:HB h)(O:n<=1000)(h1:1<=w)(u:w<=7)(v0:0<=v)(U:v<=9223372036854775807)(V:v<(256^w:Nat)):
 Ok (D7 K (.ptr P 0) (.int .i64 w) (.int .i64 v) h) fun _ h'=>iA h' P (n+w) (vg S h)/\As S h h'/\HB h':=by
 obtain⟨out,p,G,hu⟩:=p.mono (T:=vg S h) fun i=>.inl
 obtain⟨a,rfl⟩:=bD v0;have f:a<9223372036854775808:=a_
 have C:=(yS f h1 u).2 a_;simp only[D7,dr];have E:=vh (K:=K) (w:Int) h;simp only[I]at E;rw[E,aR ⟨a_,a_⟩];simp only[Aa,Ac];have wp:=yT (K:=K) f hK h;rw[show(EV.int .i64 (a:Int))=.int .i64 (Int.ofNat a)from rfl,wp,Ar];simp only[Nk,Ac];rw[show decide ((w:Int)<Int.ofNat (kj a))=false from aU (by show ¬(w:Int)<((kj a:Nat):Int);omega)];simp only[Aa,Ou,Zw];have:=SV (K:=K) (P:=P) (t:=222) (w:=w) f u (out:=out) a_ (S:=vg S h) h (fun i=>.inr) K 0 h a_ (cF _) hb (As.refl _) (by simpa [Tf]using p);rw[Nat.pow_zero,Nat.div_one]at this;refine this.mono ?_;rintro _ h' ⟨J,c,o⟩;exact⟨⟨_,J,by rw[aF,Gn,G],fun b hb=>by
  rcases bH.1 hb with y|y
  ·exact hu b y
  ·exact Yf _ _ b y⟩,⟨fun i hi hs=>c.get i hi fun y=>by
   rcases y with y|y
   ·exact hs y
   ·omega,c.next,fun w1 e1 e2 e3=>c.mw w1 e1 e2 fun i hi=>by
   rcases hi with hi|hi
   ·exact e3 i hi
   ·omega,c.hb⟩,o⟩
theorem yU{S:Nat->Prop}(o:S h.next):iA (h.new (.cells [.Am,.bool false] 222)) h.next 0 S:=⟨[],⟨⟨.Am,0,Ad _ _,Ce.nil _ _ _ _,fun y=>absurd y (bX _)⟩,o⟩,rfl,fun b hb=>by cases hb⟩
def nh(v:EV):Prop:=∃l:List Nat,v=.agg (Be l)/\l.length=44/\∀b∈l,b<256
theorem yV{S:Nat->Prop}(p:iA h P n S)(hb:HB h)(h0:0<n:=by omega)(hn:n<=44:=by omega):Ok (pM K (.ptr P 0) h) fun v h'=>nh v/\Ext h h'/\HB h':=by
 obtain⟨out,a,O,hu⟩:=p;simp only[pM,Aa];rw[show(h.new (.cells (List.replicate 44 (EV.int .u8 0)) 134)).next=h.next+1 from rfl];have u:Ext h ((h.new (.cells (List.replicate 44 (EV.int .u8 0)) 134)).new (.cells (List.replicate 44 (EV.int .u8 0)) 134)):=(As.new _ _).Dn _;have U:((h.new (.cells (List.replicate 44 (EV.int .u8 0)) 134)).new (.cells (List.replicate 44 (EV.int .u8 0)) 134)).get h.next=some (.cells (List.replicate 44 (EV.int .u8 0)) 134):=by
  rw[Ba _ (aT _)];exact Ad _ _
 have C:((h.new (.cells (List.replicate 44 (EV.int .u8 0)) 134)).new (.cells (List.replicate 44 (EV.int .u8 0)) 134)).get (h.next+1)=some (.cells (List.replicate 44 (EV.int .u8 0)) 134):=Ad _ _;generalize (h.new (.cells (List.replicate 44 (EV.int .u8 0)) 134)).new (.cells (List.replicate 44 (EV.int .u8 0)) 134)=h1 at u U C⊢;have f:=u.hb hb;obtain⟨⟨s,q,g,r,l⟩,_⟩:=a;refine(yW (K:=K) (u.at hb g) (r.frame fun y=>u.get _ (hb _ _ (r.block y)) id) f a_).Ao ?_;rintro _ h2 ⟨y,q',rfl,ry,V,W,lq⟩;have U:=V.at f U;have C:=V.at f C;simp only[Aa];rw[show ∀k:EV->R,Oz 44 1 (.ptr (h.next+1) 0) none none none k=k (.slice (h.next+1) 0 44 44 false)from fun k=>rfl];have E:=ry.bs a_;have X:=SU (h:=h2) (i:=h.next+1) (n:=n) (m:=44) (r:=44) (op:=false) (t:=134) (By:=List.replicate 44 (EV.int .u8 0)) C (by rw[<-O];exact E.len) h0 hn (by rw[<-O];exact E.cells) (by rw[Az,O]) (by simp);rw[X,Ar];have l3:=W _ _ C;have ee:Be out++(List.replicate 44 (EV.int .u8 0)).drop n=Be (out++List.replicate (44-n) 0):=by
  rw[pL,List.drop_replicate];unfold Be;rw[eh];rfl
 rw[ee];have o:(out++List.replicate (44-n) 0).length=44:=by rw[aF,bO,O];omega
 have G:∀b∈out++List.replicate (44-n) 0,b<256:=fun b hb=>by
  rcases bH.1 hb with y|y
  ·exact hu b y
  ·rw[bY y];decide
 generalize out++List.replicate (44-n) 0=l at o G⊢;have g5:(h2.put (h.next+1) (.cells (Be l) 134)).get (h.next+1)=some (.cells (Be l) 134):=Ae _ _ _;have Y:(h2.put (h.next+1) (.cells (Be l) 134)).get h.next=some (.cells (List.replicate 44 (EV.int .u8 0)) 134):=by rw[Af _];exact U
 have aa:=u.trans V;have x5:=aa.Aq (i:=h.next+1) (.inr a_) l3 (.cells (Be l) 134);generalize h2.put (h.next+1) (.cells (Be l) 134)=h5 at g5 Y x5⊢;have J:=x5.hb hb;have ul:(Be l).length=44:=by rw[Az,o]
 rw[Cz g5 rfl,Ak ul];simp only[G1];have l6:=J _ _ Y;refine Ok.st (Be l) Y rfl (by show Fp (Be l)=44;rw[Bb,ul]) (Bn (by show(List.replicate 44 (EV.int .u8 0)).length=(Be l).length;rw[ul,bO])) ?_;rw[Wi (Ae _ _ _) oz.1 oz.2 ul];exact .ret ⟨⟨l,rfl,o,G⟩,x5.Aq (.inr (aD _)) l6 _,J.put l6 _⟩
theorem yX{z:List EV}{v:EV}(o:nh v)(a:h.get i=some (.cells z 134))(p:z.length=44)(x:Ext h0 h)(hb:HB h)(hi:h0.next<=i):Ok (f_ 44 (.ptr i 0) v h fun h=>Iq TT [.c (.ptr i 0) 134] h) fun v h'=>nh v/\Ext h0 h'/\HB h':=by
 obtain⟨l,rfl,f,hu⟩:=o;have ul:(Be l).length=44:=by rw[Az,f]
 have lt:=hb _ _ a;refine Ok.st (Be l) a rfl (by show Fp (Be l)=44;rw[Bb,ul]) (Bn (by show z.length=(Be l).length;rw[ul,p])) ?_;rw[Wi (Ae _ _ _) oz.1 oz.2 ul];exact .ret ⟨⟨l,rfl,f,hu⟩,x.Aq (.inr hi) lt _,hb.put lt _⟩
theorem SX:∀(l:List (List EV)) (j:Nat) (x:List EV),(∀x∈l,x.length=n)->l[j]? = some x->Ly l.flatten (j*n) n=some x:=by
 have len:∀l:List (List EV),(∀x∈l,x.length=n)->l.flatten.length=l.length*n:=fun l=>by
  induction l with
  | nil=>intro _;simp
  | cons a r o=>intro h;rw[b9,aF,h a (aQ ..),o fun x f=>h x (aP _ f),bP,fD];omega
 intro l j x p f;have hj:=(aZ.1 f).1;rw[Eg (by rw[len l p];have:=Nat.mul_le_mul_right n (show j+1<=l.length from hj);rw[fD]at this;exact this)];congr 1;induction l generalizing j with
 | nil=>cases f
 | cons a r o=>
  have u:=p a (aQ ..);cases j with
  | zero=>
   rw[bR]at f;cases f;rw[fT,cZ,b9,<-u,dM]
  | succ j=>
   rw[cC]at f;rw[b9,fD,show j*n+n=a.length+j*n from a_,<-cV,dD];exact o j (fun x f=>p x (aP _ f)) f (aZ.1 f).1
theorem Ok.rM{z:List EV}{Q:EV->Ab->Prop}(f:h.get i=some (.cells z t))(o:z.length=n)(a:xs.length=n)(hk:Ok (kk (h.put i (.cells xs t))) Q):Ok (f_ n (.ptr i 0) (.agg xs) h kk) Q:=
 Ok.st xs f rfl (by show Fp xs=n;rw[Bb,a]) (Bn (by show z.length=xs.length;rw[a,o])) hk
theorem iA.less{S T:Nat->Prop}(p:iA h P n S)(hb:HB h)(t:∀i,S i->i<h.next->T i):iA h P n T:=by
 obtain⟨out,⟨⟨e,q,g,r,l⟩,o⟩,b⟩:=p;exact⟨out,⟨⟨e,q,g,r,fun y=>⟨(l y).1,t _ (l y).2 (hb _ _ (r.block y))⟩⟩,t _ o (hb _ _ g)⟩,b⟩
theorem Rt {w:Nat}{S:Nat->Prop}(hK:1000<K)(p:iA h P n S)(hb:HB h)(hS:∀i,h.next<=i->S i)(f:n<=1000)(h1:1<=w)(o:w<=7)(v0:0<=v:=by omega)(u:v<=9223372036854775807:=by omega)(C:v<(256^w:Nat):=by omega):
 Ok (D7 K (.ptr P 0) (.int .i64 w) (.int .i64 v) h) fun _ h'=>iA h' P (n+w) S/\As S h h'/\HB h'/\∀i,h'.next<=i->S i:=
 (SW hK p hb f h1 o v0 u C).mono fun _ _ ⟨a,c,b⟩=>⟨a.mono fun i hi=>hi.elim id (hS i),c,b,fun i hi=>hS i (bS c.next hi)⟩
theorem rN{ll:Nat}{g:Gm}(m:Qs h b ml ll g es)(hb:HB h):Ok (N2 K (.ptr b 0) h) fun v h'=>v=gV g/\Ext h h'/\HB h':=by
 simp only[N2,Aa];have a:Ext h (h.new (.cells [EV.int .i64 0,.int .i64 0,.int .i64 0,.int .i64 0,.int .i64 0,.int .i64 0] 23)):=As.new _ _;have o:=a.hb hb;rw[Cz (a.at hb m.map) rfl,show Ly (gL g++[.slice ml 0 g.B.toNat g.B.toNat false,.slice ll 0 (g.D*g.Z).toNat (g.D*g.Z).toNat false]) 0 6=some (gL g)from rfl];simp only[Aa];refine Ok.st (gL g) (Ad _ _) rfl rfl (Bn rfl) ?_;rw[Wi (Ae _ _ _) rO.1 rO.2 rfl];have f:=a.Aq (i:=h.next) (.inr (aD _)) (aT _) (.cells (gL g) 23);exact .ret ⟨rfl,f,f.hb hb⟩
theorem yY {g:Gm}(s:Sm g){x:Me}(h:meR g x=true):(0<=x.state/\x.state<=2)/\(0<=x.Ai/\x.Ai<=511)/\(0<=x.Bj/\x.Bj<=511)/\(0<=x.off/\x.off<=63)/\(0<=x.seq/\x.seq<=281474976710655)/\(0<=x.sum/\x.sum<=4294967295):=by
 have:=s.d0;have:=s.d1;have:=s.z0;have:=s.z1;have:=s.s1;obtain⟨o,p⟩:=Nz (a:=g.D) (b:=g.Z) (A:=8) (B:=64);unfold meR at h;split at h
 next h0=>
  rw[cS h];unfold Me.nil;refine⟨?_,?_,?_,?_,?_,?_⟩<;>simp only<;>omega
 ·split at h
  ·unfold meB Mn at h
   simp only[aX,Gd,aW]at h;obtain⟨⟨_,⟨a,b⟩,c,d⟩,⟨_,⟨e,f⟩,_⟩,_,i,j,k,l⟩:=h;refine⟨?_,?_,?_,?_,?_,?_⟩<;>omega
  ·cases h
theorem vi {g:Gm}(h:∀x∈es,meR g x=true)(j:Int):meR g (hU es j).1=true:=by
 have n0:meR g (Me.nil 0)=true:=by unfold meR;rw[aK (.inl rfl)];exact aR rfl
 unfold hU;split
 ·cases a:es[j.toNat]? with
  | none=>exact n0
  | some y=>exact h y (dJ a)
 ·exact n0
theorem SY {g:Gm}(sm:Sm g){x:Me}(hx:meR g x=true){S:Nat->Prop}(hK:1000<K)(p:iA h P n S)(hb:HB h)(hS:∀i,h.next<=i->S i)(hn:n<=900):
 Ok (rP K (.ptr P 0) (.agg x.cells) h) fun _ h'=>iA h' P (n+16) S/\As S h h'/\HB h'/\∀i,h'.next<=i->S i:=by
 obtain⟨b1,b2,b3,b4,b5,b6⟩:=yY sm hx;simp only[rP,Aa];obtain⟨h1,e_,G,U,n1⟩:=nW h (.cells x.cells 87);rw[e_];have f:=G.hb hb;have t1:∀i,h1.next<=i->S i/\i≠h.next:=fun i hi=>⟨hS i a_,a_⟩
 have p1:iA h1 P n (fun i=>S i/\i≠h.next):=(p.less hb (T:=fun i=>S i/\i≠h.next) fun i a b=>⟨a,a_⟩).chg hb G fun _ _ _=>id
 rw[Al U rfl (v:=I x.state) rfl];refine(Rt hK p1 f t1 a_ (w:=1) a_ a_ (v:=x.state)).Ao ?_;rintro _ h2 ⟨p2,c2,o,t2⟩;have V:=c2.at f U fun y=>y.2 rfl
 rw[Al V rfl (v:=I x.Ai) rfl];refine(Rt hK p2 o t2 a_ (w:=2) a_ a_ (v:=x.Ai)).Ao ?_;rintro _ h3 ⟨p3,c3,u,t3⟩;have W:=c3.at o V fun y=>y.2 rfl
 rw[Al W rfl (v:=I x.Bj) rfl];refine(Rt hK p3 u t3 a_ (w:=2) a_ a_ (v:=x.Bj)).Ao ?_;rintro _ h4 ⟨p4,c4,C,t4⟩;have X:=c4.at u W fun y=>y.2 rfl
 rw[Al X rfl (v:=I x.off) rfl];refine(Rt hK p4 C t4 a_ (w:=1) a_ a_ (v:=x.off)).Ao ?_;rintro _ h5 ⟨p5,Y,E,t5⟩;have g5:=Y.at C X fun y=>y.2 rfl
 rw[Al g5 rfl (v:=I x.seq) rfl];refine(Rt hK p5 E t5 a_ (w:=6) a_ a_ (v:=x.seq)).Ao ?_;rintro _ h6 ⟨p6,c6,J,t6⟩;have g6:=c6.at E g5 fun y=>y.2 rfl
 rw[Al g6 rfl (v:=I x.sum) rfl];refine(Rt hK p6 J t6 a_ (w:=4) a_ a_ (v:=x.sum)).Ao ?_;rintro _ h7 ⟨p7,c7,O,t7⟩;exact .ret ⟨p7.mono fun i hi=>hi.1,(G.mono fun _=>False.elim).trans (((((c2.trans c3).trans c4).trans Y).trans c6).trans c7|>.mono fun i hi=>hi.1),O,fun i hi=>(t7 i hi).1⟩
theorem SZ(hK:1000<K){ll:Nat}{g:Gm}(s:Sm g)(m:Qs h b ml ll g es)(hb:HB h){x y:EV}(q0:0<=sq)(q1:sq<=281474976710655):
 Ok (rQ K (.agg [x,y,I sq,.ptr b 0]) h) fun v h'=>nh v/\Ext h h'/\HB h':=by
 simp only[rQ,Aa];have Y:Ext h ((h.new (.cells [x,y,I sq,.ptr b 0] 58)).new (.cells (List.replicate 44 (.int .u8 0)) 134)):=(As.new _ _).Dn _;have g1:((h.new (.cells [x,y,I sq,.ptr b 0] 58)).new (.cells (List.replicate 44 (.int .u8 0)) 134)).get h.next=some (.cells [x,y,I sq,.ptr b 0] 58):=by rw[Ba _ (aT _)];exact Ad _ _
 have f1:((h.new (.cells [x,y,I sq,.ptr b 0] 58)).new (.cells (List.replicate 44 (.int .u8 0)) 134)).get (h.next+1)=some (.cells (List.replicate 44 (.int .u8 0)) 134):=Ad _ _;have n1:((h.new (.cells [x,y,I sq,.ptr b 0] 58)).new (.cells (List.replicate 44 (.int .u8 0)) 134)).next=h.next+2:=rfl
 generalize (h.new (.cells [x,y,I sq,.ptr b 0] 58)).new (.cells (List.replicate 44 (.int .u8 0)) 134)=h1 at Y g1 f1 n1⊢;have aa:=Y.hb hb;rw[Al g1 rfl (v:=.ptr b 0) rfl];refine(rN (K:=K) (m.frame (Y.get _ (hb _ _ m.map) id) (Y.get _ (hb _ _ m.row) id) (Y.get _ (hb _ _ m.live) id)) aa).Ao ?_;rintro _ h2 ⟨rfl,x2,ad⟩;have g2:=x2.at aa g1;have f2:=x2.at aa f1;refine Ok.rM (xs:=gL g) (Ad _ _) rfl rfl ?_;rw[Ax (l:=[.Am,.bool false]) rfl];simp only[Aa];obtain⟨p,e_,x3,e3,n3⟩:=nP h2 (.cells [EV.int .i64 0,.int .i64 0,.int .i64 0,.int .i64 0,.int .i64 0,.int .i64 0] 23) (.cells (gL g) 23);rw[e_];have u:=x3.hb ad;have x4:Ext p (p.new (.cells [.Am,.bool false] 222)):=As.new _ _;have p4:iA (p.new (.cells [.Am,.bool false] 222)) p.next 0 (fun i=>p.next<=i):=yU (aD _)
 have n4:(p.new (.cells [.Am,.bool false] 222)).next=p.next+1:=rfl
 generalize p.new (.cells [.Am,.bool false] 222)=h4 at x4 p4 n4⊢;have C:=x4.hb u;have g4:=x4.at u (x3.at ad g2);have f4:=x4.at u (x3.at ad f2);have e4:=x4.at u e3;have l1:=x2.next
 have k1:¬p.next<=h.next:=a_
 have k2:¬p.next<=h.next+1:=a_
 have k3:¬p.next<=h2.next:=a_
 have:=s.d0;have:=s.d1;have:=s.z0;have:=s.z1;have:=s.s0;have:=s.s1;have:=s.b0;have:=s.b1;have:=s.p0;have:=s.p1;have:=s.o0;have:=s.o1;have t4:∀i,h4.next<=i->p.next<=i:=fun i hi=>a_
 rw[Al g4 rfl (v:=I sq) rfl];refine(Rt hK p4 C t4 a_ (w:=6) a_ a_ (v:=sq)).Ao ?_;rintro _ h5 ⟨p5,c5,E,t5⟩;have g5:=c5.at C g4 k1;have f5:=c5.at C f4 k2;have e5:=c5.at C e4 k3;rw[Al e5 rfl (v:=I g.D) rfl];refine(Rt hK p5 E t5 a_ (w:=1) a_ a_ (v:=g.D)).Ao ?_;rintro _ h6 ⟨p6,c6,G,t6⟩;have g6:=c6.at E g5 k1;have f6:=c6.at E f5 k2;have e6:=c6.at E e5 k3;rw[Al e6 rfl (v:=I g.Z) rfl];refine(Rt hK p6 G t6 a_ (w:=1) a_ a_ (v:=g.Z)).Ao ?_;rintro _ h7 ⟨p7,c7,J,t7⟩;have g7:=c7.at G g6 k1;have f7:=c7.at G f6 k2;have e7:=c7.at G e6 k3;rw[Al e7 rfl (v:=I g.S) rfl];refine(Rt hK p7 J t7 a_ (w:=1) a_ a_ (v:=g.S)).Ao ?_;rintro _ h8 ⟨p8,c8,U,t8⟩;have g8:=c8.at J g7 k1;have f8:=c8.at J f7 k2;have e8:=c8.at J e7 k3;rw[Al e8 rfl (v:=I g.B) rfl];refine(Rt hK p8 U t8 a_ (w:=2) a_ a_ (v:=g.B)).Ao ?_;rintro _ h9 ⟨p9,c9,V,t9⟩;have g9:=c9.at U g8 k1;have f9:=c9.at U f8 k2;have e9:=c9.at U e8 k3;rw[Al e9 rfl (v:=I g.P) rfl];refine(Rt hK p9 V t9 a_ (w:=1) a_ a_ (v:=g.P)).Ao ?_;rintro _ b5 ⟨a1,W,f,t10⟩;have a2:=W.at V g9 k1;have f10:=W.at V f9 k2;have vj:=W.at V e9 k3;rw[Al vj rfl (v:=I g.O) rfl];refine(Rt hK a1 f t10 a_ (w:=1) a_ a_ (v:=g.O)).Ao ?_;rintro _ b6 ⟨a5,o,X,t11⟩;have b7:=o.at f a2 k1;have f11:=o.at f f10 k2;have S_:=o.at f vj k3;refine(yV a5 X).Ao ?_;rintro v a6 ⟨hv,ai,aj⟩;have x5:Ext h h4:=((Y.trans x2).trans x3).trans x4;have o:=((((((c5.trans c6).trans c7).trans c8).trans c9).trans W).trans o);have x:Ext h a6:=(x5.then o fun i a b=>by have:=Y.next;omega).trans ai;exact yX hv (ai.at X f11) (by simp) x aj (by show h.next<=h.next+1;omega)
theorem TA(hK:1000<K){h4:Ab}{ll n3 r:Nat}{g:Gm}(s:Sm g){l:List EV}(W:l[3]? = some (.ptr b 0)){j:Int}(j0:1<=j)(j1:j<=255)(X:∀h,As (fun i=>n3<=i) h4 h->Ext h0 h)(hr:h0.next<=r)(k1:t<n3)(k2:r<n3)(k3:b<n3)(k4:ml<n3)(k5:ll<n3):∀(n i:Nat) (h:Ab),2-i<n->i<=2->HB h->(∀i,h.next<=i->n3<=i)->As (fun i=>n3<=i) h4 h->iA h P (1+16*i) (fun i=>n3<=i)->Qs h b ml ll g es->h.get t=some (.cells l 58)->h.get r=some (.cells (List.replicate 44 (.int .u8 0)) 134) ->
 Ok (Ya K n (I j) (.ptr t 0) (.ptr r 0) (.ptr P 0) (I i) h) fun v h'=>nh v/\Ext h0 h'/\HB h':=by
 intro n;induction n with
 | zero=>intro i h Y;omega
 | succ n ih=>
  intro i h Y hi hb ht c p m gt J;rw[Ya];simp only[I,Ac,Aa];by_cases ae:i<2
  ·have:decide ((i:Int)<2)=true:=by simp;omega
   simp only[this,Aa,yZ];rw[Al gt rfl W];simp only[Ac];rw[show Cr .i64 (j-1)=j-1 from Cn,show Cr .i64 (2*(j-1))=2*(j-1)from Cn,show Cr .i64 (2*(j-1)+i)=2*(j-1)+i from Cn];refine(Zu (K:=K) s m hb (2*(j-1)+i)).Ao ?_;rintro _ h2 ⟨rfl,O⟩;have C:=O.hb hb;have hR:=vi m.ok (2*(j-1)+(i:Int));generalize (hU es (2*(j-1)+(i:Int))).1=x at hR⊢;simp only[Aa];refine Ok.mk rfl rfl fun h3 U e3 _=>?_
   have E:=U.hb C;rw[Cu e3 rfl (Ak (n:=6) rfl)];have f:=O.trans U;refine(SY s hR hK (p.chg hb f fun _ _ _=>id) E (fun i hi=>ht i (bS f.next hi)) a_).Ao ?_;rintro _ V ⟨p5,c5,G,t5⟩;have a:As (fun i=>n3<=i) h V:=(Ext.to f).trans c5;simp only[y6,I,Ac];rw[Cn,show((i:Nat):Int)+1=((i+1:Nat):Int) from a_];refine ih (i+1) V a_ a_ G t5 (c.trans a) ?_ ?_ ?_ ?_
   ·rw[Nat.mul_succ,<-Nat.add_assoc];exact p5
   ·exact m.frame (a.get _ (hb _ _ m.map) a_) (a.get _ (hb _ _ m.row) a_) (a.get _ (hb _ _ m.live) a_)
   ·exact a.at hb gt a_
   ·exact a.at hb J a_
  ·have:decide ((i:Int)<2)=false:=by simp;omega
   have:i=2:=a_
   subst this;simp only[this,Aa,y7];refine(yV p hb).Ao ?_;rintro v ah ⟨hv,o,u⟩;exact yX hv (o.at hb J) (by simp) ((X h c).trans o) u hr
theorem TB(hK:1000<K){ll:Nat}{g:Gm}(s:Sm g)(m:Qs h b ml ll g es)(hb:HB h){x y z:EV}{j:Int}(W:1<=j)(X:j<=255):
 Ok (rS K (.agg [x,y,z,.ptr b 0]) (I j) h) fun v h'=>nh v/\Ext h h'/\HB h':=by
 simp only[rS,Aa];rw[Ax (l:=[.Am,.bool false]) rfl];simp only[Aa];have J:Ext h ((h.new (.cells [x,y,z,.ptr b 0] 58)).new (.cells (List.replicate 44 (.int .u8 0)) 134)):=(As.new _ _).Dn _;have U:((h.new (.cells [x,y,z,.ptr b 0] 58)).new (.cells (List.replicate 44 (.int .u8 0)) 134)).get h.next=some (.cells [x,y,z,.ptr b 0] 58):=by rw[Ba _ (aT _)];exact Ad _ _
 have f1:((h.new (.cells [x,y,z,.ptr b 0] 58)).new (.cells (List.replicate 44 (.int .u8 0)) 134)).get (h.next+1)=some (.cells (List.replicate 44 (.int .u8 0)) 134):=Ad _ _;have n1:((h.new (.cells [x,y,z,.ptr b 0] 58)).new (.cells (List.replicate 44 (.int .u8 0)) 134)).next=h.next+2:=rfl
 rw[show(h.new (Ds.cells [x,y,z,EV.ptr b 0] 58)).next=h.next+1 from rfl];generalize (h.new (.cells [x,y,z,.ptr b 0] 58)).new (.cells (List.replicate 44 (.int .u8 0)) 134)=o at J U f1 n1⊢;have p:=J.hb hb;have C:Ext o (o.new (.cells [.Am,.bool false] 222)):=As.new _ _;have V:iA (o.new (.cells [.Am,.bool false] 222)) o.next 0 (fun i=>o.next<=i):=yU (aD _)
 have n4:(o.new (.cells [.Am,.bool false] 222)).next=o.next+1:=rfl
 generalize o.new (.cells [.Am,.bool false] 222)=h4 at C V n4⊢;have f:=C.hb p;have l1:=hb _ _ m.map;have Y:=hb _ _ m.row;have l3:=hb _ _ m.live;have E:=J.trans C;refine(Rt hK V f (fun i hi=>by omega) a_ (w:=1) a_ a_ (v:=j)).Ao ?_;rintro _ h5 ⟨p5,u,O,t5⟩;refine TA (es:=es) (n3:=o.next) hK s rfl W X (h0:=h) (h4:=h4) (b:=b) (ml:=ml) (ll:=ll) (fun h' c=>E.then c fun i a b=>by omega) (Nat.le_succ _) a_ a_ a_ a_ a_ K 0 h5 a_ a_ O t5 u p5 ?_ (u.at f (C.at p U) a_) (u.at f (C.at p f1) a_);have G:=m.frame (E.get _ l1 id) (E.get _ Y id) (E.get _ l3 id);exact G.frame (u.get _ (f _ _ G.map) a_) (u.get _ (f _ _ G.row) a_) (u.get _ (f _ _ G.live) a_)
section
theorem TC:(Fa TT 93 0).2.1 = [29,30]:=by kernel_rfl
def oA(sq:Int)(es:List Me):Bool:=es.any fun x=>decide (sq<=x.seq)
structure oC(h:Ab)(l0 d0:Nat)(tm:Ay)(b1 b2:Nat)(x y w:EV)(sq:Int)(found:Bool):Prop where
 lp:h.get l0=some (Aw TT 93 36 0 tm (if found then .done else .ready) (if found then some .ret else none) d0)
 c1:h.get b1=some (.cells [x,y,I sq,w] 58)
 c2:h.get b2=some (.cells [.bool false] 4)
 hb:HB h
section
variable (H:Cf disp)
include H
theorem TD {e:Nat}(he:2<=e){l0 d0 b1:Nat}{x y w:EV}{i:Int}{z:Me}(U:oC h l0 d0 tm b1 b2 x y w sq false)(t1:tmp tm 1=.ptr b1 0)(t2:tmp tm 2=.ptr b2 0):
 ∃h',Ag TT disp K (e+1) true l0 [I i,.agg z.cells] h=some (.bool (decide (¬sq<=z.seq)),h')/\oC h' l0 d0 tm b1 b2 x y w sq (decide (sq<=z.seq))/\As (fun j=>j=l0\/j=b2) h h':=by
 have E:=U.lp;simp only[aV,ak]at E;have p:=E;have g1:=U.c1;have g2:=U.c2;have hb:=U.hb;unfold Aw at p;rw[TC]at p;rw[TE H he tm h (I i) _ p,t1,t2];have ah:=hb _ _ E;have u:l0≠b1:=Bf E g1 (by simp[Aw]);have f:l0≠b2:=Bf E g2 (by simp[Aw]);have ae:b1≠b2:=Bf g1 g2 (by intro y;injection y with _ y;cases y);simp only[y8,Aa];rw[ly (h:=h.new (.cells [EV.int .i64 0,.int .i64 0,.int .i64 0,.int .i64 0,.int .i64 0,.int .i64 0] 87)) (i:=h.next) (o:=0) (n:=6) (v:=.agg z.cells) (l:=[EV.int .i64 0,.int .i64 0,.int .i64 0,.int .i64 0,.int .i64 0,.int .i64 0]) (t:=87) (l':=z.cells) (Ad _ _) rfl rfl (Bn rfl)];obtain⟨C,e_,G,e3,_⟩:=nP h (.cells [EV.int .i64 0,.int .i64 0,.int .i64 0,.int .i64 0,.int .i64 0,.int .i64 0] 87) (.cells z.cells 87);rw[e_];have J:=G.hb hb;have q0:=G.at hb E;have l3:=J _ _ q0;rw[Zg q0];have c4:As (fun j=>j=l0\/j=b2) h (C.put l0 (Aw TT 93 36 0 tm .busy none d0)):=(Ext.to (S:=fun j=>j=l0\/j=b2) G).Aq (.inl (.inl rfl)) l3 _;have r0:(C.put l0 (Aw TT 93 36 0 tm .busy none d0)).get l0=some (Aw TT 93 36 0 tm .busy none d0):=Ae _ _ _;have V:(C.put l0 (Aw TT 93 36 0 tm .busy none d0)).get b1=some (.cells [x,y,I sq,w] 58):=by rw[Af _ u];exact G.at hb g1
 have W:(C.put l0 (Aw TT 93 36 0 tm .busy none d0)).get b2=some (.cells [.bool false] 4):=by rw[Af _ f];exact G.at hb g2
 have re:(C.put l0 (Aw TT 93 36 0 tm .busy none d0)).get h.next=some (.cells z.cells 87):=by rw[Af _];exact e3
 have a:HB (C.put l0 (Aw TT 93 36 0 tm .busy none d0)):=J.put l3 _;generalize C.put l0 (Aw TT 93 36 0 tm .busy none d0)=h4 at c4 r0 V W re a⊢;have X:=a _ _ r0;have O:=a _ _ W;simp only[Yh,Aa];rw[Al re rfl (v:=I z.seq) rfl,Al V rfl (v:=I sq) rfl];simp only[I,Ac];by_cases Y:sq<=z.seq
 ·have e1:decide (z.seq≥sq)=true:=aR Y
  simp only[e1,Aa,Y,aC,aA,aB];rw[ly (o:=0) (n:=1) (v:=.bool false) (l':=[.bool false]) W rfl rfl rfl,Rc (by rw[Af _ (cX f)];exact r0)];exact⟨_,rfl,⟨Ae _ _ _,by rw[Af _ u,Af _ (cX ae)];exact V,by rw[Af _ f];exact Ae _ _ _,(a.put O _).put (by rw[Ab.P9];exact X) _⟩,(c4.Aq (.inl (.inr rfl)) O _).Aq (.inl (.inl rfl)) (by rw[Ab.P9];exact X) _⟩
 ·have e1:decide (z.seq≥sq)=false:=aU Y
  simp only[e1,Aa,Y,aG,aA,aB];rw[Rc r0];exact⟨_,rfl,⟨Ae _ _ _,by rw[Af _ u];exact V,by rw[Af _ f];exact W,a.put X _⟩,c4.Aq (.inl (.inl rfl)) X _⟩
theorem TF {e:Nat}(he:3<=e){l0 d0 b1:Nat}{x y w:EV}(hn:es.length<=256)(t1:tmp tm 1=.ptr b1 0)(t2:tmp tm 2=.ptr b2 0):∀(m i:Nat) (h:Ab),es.length-i<m->i<=es.length->oC h l0 d0 tm b1 b2 x y w sq false ->
 h.get ml=some (.cells (es.map Me.cells).flatten 87)->ml≠l0->ml≠b2 ->
 Ok (Cc (Ag TT disp K e false) (Ag TT disp K e true) K m (.Vh l0) (.slice ml 0 es.length es.length false) (I es.length) (I i) h) fun _ h'=>oC h' l0 d0 tm b1 b2 x y w sq (oA sq (es.drop i))/\As (fun j=>j=l0\/j=b2) h h':=by
 intro m;induction m with
 | zero=>intro i h hm;omega
 | succ m V=>
  intro i h hm hi f U p u;rw[Cc];simp only[I,Ac,Aa];by_cases o:i<es.length
  ·have:decide ((i:Int)<(es.length:Int))=true:=by simp;omega
   simp only[this,Aa,F3];rw[Lg o,bJ,Cu U rfl (rG es o)];rw[show oA sq (es.drop i)=(decide (sq<=es[i].seq)||oA sq (es.drop (i+1))) by rw[cm o];rfl];generalize es[i]=z
   try simp only[Aa]
   refine Ok.mk rfl rfl fun J C e3 _=>?_
   have O:=C.hb f.hb;rw[Cu e3 rfl (Ak (n:=6) rfl)];obtain⟨e,rfl⟩:=fc e;have W:T5 (Ag TT disp K (e+1) false) (Ag TT disp K (e+1) true) (.Vh l0) [.int .i64 (i:Int),.agg z.cells] J=Ag TT disp K (e+1) true l0 [I i,.agg z.cells] J:=rfl;obtain⟨h4,X,E,c4⟩:=TD (K:=K) H (e:=e) a_ (i:=i) (z:=z) (⟨C.at f.hb f.lp,C.at f.hb f.c1,C.at f.hb f.c2,O⟩:oC J l0 d0 tm b1 b2 x y w sq false) t1 t2;rw[W,X,Ar];have c:As (fun j=>j=l0\/j=b2) h h4:=(Ext.to C).trans c4;by_cases G:sq<=z.seq
   ·simp only[G,aB]at E
    simp only[G,aC,aA,Aa,aB,Bool.true_or];exact .ret ⟨E,c⟩
   ·simp only[G,aA]at E
    simp only[G,aG,aB,aA,Aa,Bool.false_or,F2,Ac];rw[Cn,show((i:Nat):Int)+1=((i+1:Nat):Int) from a_];refine(V (i+1) h4 a_ a_ E (c.at f.hb U fun y=>y.elim p u) p u).mono ?_;rintro _ h5 ⟨a,Y⟩;exact⟨a,c.trans Y⟩
  ·have:decide ((i:Int)<(es.length:Int))=false:=by simp;omega
   have e0:es.drop i = []:=List.drop_eq_nil_of_le a_;rw[e0];simp only[this,Aa];exact .ret ⟨f,As.refl _⟩
omit H in
theorem TG {l:Int}(h:Ab):Se K (I v) (I l) h=some (.bool (decide (1<=v)&&decide (v<=l)),h):=by
 simp only[Se,y9,I,Ac,Aa];by_cases h1:1<=v<;>by_cases h2:v<=l<;>simp[h1,h2,Aa]
end
end
section
def kA(x y z:Int)(es:List Me):Bool:=(decide (1<=x)&&decide (x<=281474976710655))&&((decide (1<=y)&&decide (y<=4294967295))&&((decide (1<=z)&&decide (z<=281474976710655))&&!oA z es))
theorem pN {a:Ab}{b:Bool}(f:a.get q=some (.cells [.bool b] 4)):Iq TT [.c (.ptr q 0) 4] a=some (.bool b,a):=by
 have hr:I6 a q 0 1=some [.bool b]:=by unfold I6;rw[f];rfl
 unfold Iq;simp only[jV,show TT.size 4=some 1 by kernel_rfl,show TT.agg 4=some false by kernel_rfl,hr]
section
variable (H:Cf disp)
include H
theorem TH {e:Nat}(he:4<=e)(hK:1000<K)(w1:Ext h0 h1){ll b1:Nat}{g:Gm}(s:Sm g)(m:Qs h1 b ml ll g es)(f:HB h1)(l1:h0.next<=b1)(l2:h0.next<=b2)(lm:ml<h0.next){x y:EV}{z:Int}(g1:h1.get b1=some (.cells [x,y,I z,.ptr b 0] 58))(f1:h1.get b2=some (.cells [.bool false] 4))(t1:tmp tm 1=.ptr b1 0)(t2:tmp tm 2=.ptr b2 0):
 Ok (Vj (Ag TT disp K e false) (Ag TT disp K e true) K tm (.ptr b1 0) (.ptr b2 0) h1 []) fun v h'=>v=.bool (!oA z es)/\Ext h0 h'/\HB h':=by
 have:=s.b0;have:=s.b1;have hlen:=m.len;simp only[Vj,Aa];rw[Al g1 rfl (v:=.ptr b 0) rfl];simp only[Xo,Aa,E9];rw[Al m.map rfl (v:=.slice ml 0 g.B.toNat g.B.toNat false) rfl,<-hlen];simp only[Aa];obtain⟨h2,e_,x2,q2,n2⟩:=nW h1 (.cells [.slice ml 0 es.length es.length false] 145);rw[e_];have G:=x2.hb f;have J:tmp (((tm.put 26 (some (.ptr b1 3))).put 27 (some (.ptr b 0))).put 28 (some (.func 201 [] [.ptr h1.next 0]))) 1=.ptr b1 0:=by simp only[Iu,reduceIte,Nat.reduceEqDiff];exact t1
 have O:tmp (((tm.put 26 (some (.ptr b1 3))).put 27 (some (.ptr b 0))).put 28 (some (.func 201 [] [.ptr h1.next 0]))) 2=.ptr b2 0:=by simp only[Iu,reduceIte,Nat.reduceEqDiff];exact t2
 generalize (((tm.put 26 (some (.ptr b1 3))).put 27 (some (.ptr b 0))).put 28 (some (.func 201 [] [.ptr h1.next 0])))=tm at J O⊢;obtain⟨e,rfl⟩:=fc e;refine Ok.range ?_;have W:Ext h2 (Cd TT 93 36 0 tm h2):=Jd;have k0:(Cd TT 93 36 0 tm h2).get h2.next=some (.deferred true):=La
 have k1:(Cd TT 93 36 0 tm h2).get (h2.next+1)=some (Aw TT 93 36 0 tm .ready none h2.next):=Ju;generalize Cd TT 93 36 0 tm h2=X at W k0 k1⊢;have u:=W.hb G;have p:Ext h1 X:=x2.trans W;have ax:=f _ _ g1;have ay:=f _ _ f1;have az:=f _ _ m.row;rw[Jc H (cF _)];simp only[Gs,dr];rw[Al (W.at G q2) rfl (v:=.slice ml 0 es.length es.length false) rfl];simp only[Aa];have I3:oC X (h2.next+1) h2.next tm b1 b2 x y (.ptr b 0) z false:=⟨k1,p.at f g1,p.at f f1,u⟩
 refine(TF (K:=K) H (e:=e) a_ (es:=es) (ml:=ml) a_ J O K 0 X a_ a_ I3 (p.at f m.row) a_ a_).mono ?_;rw[cZ];rintro _ h4 ⟨U,c4⟩;have a2:=w1.next
 have Y:=U.hb _ _ U.lp;have k2:h2.next<X.next:=u _ _ k0
 have kd:h4.get h2.next=some (.deferred true):=c4.at u k0 a_
 have x4:Ext h0 h4:=(w1.trans p).then c4 fun i hi a=>a_
 have ne:h2.next≠b2:=a_
 have lp:=U.lp;have c2:=U.c2;have V:=U.hb;revert lp;generalize oA z es=bb;intro lp;cases bb with
 | true=>
  simp only[bN]at lp;refine .inr ⟨lp,?_⟩;have o:HB (h4.put (h2.next+1) (Aw TT 93 36 0 tm .exhausted (some .ret) h2.next)):=V.put Y _;refine Ok.unwind (cA.2 ⟨by simp,dE⟩) (fun d hd=>by rw[aN]at hd;subst hd;rw[Af _];exact kd) o fun h6 C _=>?_
  have g6:h6.get b2=some (.cells [.bool false] 4):=As.at C o (by rw[Af _];exact c2) (by rw[aN];omega);rw[pN g6];exact .ret ⟨rfl,(x4.Aq (.inr a_) Y _).then C fun i hi a=>by rw[aN]at hi;omega,C.hb o⟩
 | false=>
  simp only[aV,ak]at lp;refine .inl ⟨lp,?_⟩;simp only[U4,dr];have o:HB (h4.put (h2.next+1) (Aw TT 93 36 0 tm .exhausted none h2.next)):=V.put Y _;have g5:(h4.put (h2.next+1) (Aw TT 93 36 0 tm .exhausted none h2.next)).get b2=some (.cells [.bool false] 4):=by rw[Af _];exact c2
  have x5:Ext h0 (h4.put (h2.next+1) (Aw TT 93 36 0 tm .exhausted none h2.next)):=x4.Aq (.inr a_) Y _;have d5:(h4.put (h2.next+1) (Aw TT 93 36 0 tm .exhausted none h2.next)).get h2.next=some (.deferred true):=by rw[Af _];exact kd
  generalize h4.put (h2.next+1) (Aw TT 93 36 0 tm .exhausted none h2.next)=h5 at o g5 x5 d5⊢;have l6:=o _ _ g5;refine Ok.gK g5 rfl rfl (by show 0<1;decide) ?_;have E:HB (h5.put b2 (.cells ([EV.bool false].set 0 (.bool true)) 4)):=o.put l6 _;refine Ok.unwind (cA.2 ⟨by simp,dE⟩) (fun d hd=>by rw[aN]at hd;subst hd;rw[Af _ (cX ne)];exact d5) E fun h6 C _=>?_
  have g6:h6.get b2=some (.cells [.bool true] 4):=As.at C E (Ae _ _ _) (by rw[aN];exact cX ne);rw[pN g6];exact .ret ⟨rfl,(x5.Aq (.inr l2) l6 _).then C fun i hi a=>by rw[aN]at hi;omega,C.hb E⟩
end
end
section
theorem vl {l:Int}(h:Ab):Se K (.int .i64 v) (.int .i64 l) h=some (.bool (decide (1<=v)&&decide (v<=l)),h):=TG h
theorem TI(f1:h1.get b2=some (.cells [.bool false] 4))(w1:Ext h0 h1)(a:HB h1)(f:h0.next<=b2):Ok (f_ 1 (.ptr b2 0) (.bool false) h1 fun h=>Fv [] h fun h=>Iq TT [.c (.ptr b2 0) 4] h) fun v h'=>v=.bool false/\Ext h0 h'/\HB h':=by
 have l:=a _ _ f1;refine Ok.gK f1 rfl rfl (by show 0<1;decide) ?_;show Ok (Iq TT [.c (.ptr b2 0) 4] (h1.put b2 (.cells [.bool false] 4))) _;rw[pN (b:=false) (Ae _ _ _)];exact .ret ⟨rfl,w1.Aq (.inr f) l _,a.put l _⟩
section
variable (H:Cf disp)
include H
theorem y_(hd:5<=d)(hK:1000<K){ll:Nat}{g:Gm}(s:Sm g)(m:Qs h b ml ll g es)(hb:HB h)(x y z:Int):
 Ok (Ag TT disp K d false 93 [.agg [I x,I y,I z,.ptr b 0]] h) fun v h'=>v=.bool (kA x y z es)/\Ext h h'/\HB h':=by
 obtain⟨e,rfl⟩:=fc d;rw[TJ H a_];simp only[za,Aa];have w1:Ext h ((h.new (.cells [I x,I y,I z,.ptr b 0] 58)).new (.cells [.bool false] 4)):=(As.new _ _).Dn _;have a:((h.new (.cells [I x,I y,I z,.ptr b 0] 58)).new (.cells [.bool false] 4)).get h.next=some (.cells [I x,I y,I z,.ptr b 0] 58):=by rw[Ba _ (aT _)];exact Ad _ _
 have f1:((h.new (.cells [I x,I y,I z,.ptr b 0] 58)).new (.cells [.bool false] 4)).get (h.next+1)=some (.cells [.bool false] 4):=Ad _ _;have n1:((h.new (.cells [I x,I y,I z,.ptr b 0] 58)).new (.cells [.bool false] 4)).next=h.next+2:=rfl
 rw[show(h.new (Ds.cells [I x,I y,I z,EV.ptr b 0] 58)).next=h.next+1 from rfl];generalize (h.new (.cells [I x,I y,I z,.ptr b 0] 58)).new (.cells [.bool false] 4)=h1 at w1 a f1 n1⊢;have f:=w1.hb hb;have no:=TI (h0:=h) f1 w1 f (Nat.le_succ _);have o:E4 (.tuple []) false=false/\E4 (.tuple []) true=false:=⟨rfl,rfl⟩;unfold kA;rw[Al a rfl (v:=.ptr b 0) rfl,show ∀k:EV->R,K1 iH (bin TT .eql 55) (.ptr b 0) .F7 k=k (.bool false)from fun k=>by kernel_rfl];simp only[Aa,Ac];rw[Al a rfl (v:=I x) rfl]
 try simp only[I]
 rw[vl,Ar];cases(decide (1<=x)&&decide (x<=281474976710655))with
 | false=>
  simp only[Aa,Ac,Pg,Lv,I7,a8];exact no
 | true=>
 simp only[Aa,Ac,Pg,bG];rw[Al a rfl (v:=I y) rfl]
 try simp only[I]
 rw[vl,Ar];cases(decide (1<=y)&&decide (y<=4294967295))with
 | false=>
  simp only[Aa,Ac,Lv,I7,a8];exact no
 | true=>
 simp only[Aa,Ac,Lv,bG];rw[Al a rfl (v:=I z) rfl]
 try simp only[I]
 rw[vl,Ar];cases(decide (1<=z)&&decide (z<=281474976710655))with
 | false=>
  simp only[Aa,Ac,I7,a8];exact no
 | true=>
 simp only[Aa,Ac,I7,bG];have p:=m.frame (w1.get _ (hb _ _ m.map) id) (w1.get _ (hb _ _ m.row) id) (w1.get _ (hb _ _ m.live) id);exact TH H a_ hK w1 s p f (aD _) (Nat.le_succ _) (hb _ _ m.row) a f1 (by simp only[Iu,reduceIte,Nat.reduceEqDiff]) (by simp only[Iu,reduceIte,Nat.reduceEqDiff])
end
end
section
def ji(h:Ab)(s:EV)(q:Nat)(e:TypeId)(sz len:Nat)(l:List EV):Prop:=
 Ce h s q e sz len l\/(len=1/\s=.slice q 0 1 1 false/\h.get q=some (.cells l e)/\l.length=sz)
theorem ji.frame{s:EV}{len:Nat}{l:List EV}(r:ji h s q e sz len l)(g:0<len->h'.get q=h.get q):ji h' s q e sz len l:=by
 rcases r with r|⟨a,b,c,d⟩
 ·exact .inl (r.frame g)
 ·exact .inr ⟨a,b,by rw[g a_];exact c,d⟩
theorem ji.lt{s:EV}{len:Nat}{l:List EV}(r:ji h s q e sz len l)(hb:HB h)(f:0<len):q<h.next:=by
 rcases r with r|⟨a,b,c,d⟩
 ·exact hb _ _ (r.block f)
 ·exact hb _ _ c
theorem TK{s v:EV}{len:Nat}{l z:List EV}{Q:EV->Ab->Prop}(r:ji h s q e sz len l)(hb:HB h)(f:v.plain=true)(o:z.length=sz)(a:v.cells.length=sz)(hs:sz<=65536)(u:len<=65535)
 (hk:∀h',Ce h' (.slice (h.next+1) 0 (len+1) (len+1) true) (h.next+1) e sz (len+1) (l++v.cells)->h'.next=h.next+2->As (fun i=>0<len/\i=q) h h'->Ok (k (.slice (h.next+1) 0 (len+1) (len+1) true) h') Q) :
 Ok (Ao (Bv z e sz 1 [(0,v)] h) fun w h=>Ao (D9 e sz s w h) k) Q:=by
 rcases r with r|⟨rfl,rfl,g,ll⟩
 ·exact Ny r hb f o a hs a_ hk
 ·rw[Vt f o a hs,Ar]
  have p:(h.new (.cells v.cells e)).get q=some (.cells l e):=by rw[Ba _ (hb _ _ g)];exact g
  have c1:=Xb (sz:=sz) (Ad h (.cells v.cells e)) a;have c2:=Xb (sz:=sz) p ll;have e1:D9 e sz (.slice q 0 1 1 false) (.slice h.next 0 1 1 false) (h.new (.cells v.cells e))=some (.slice (h.next+1) 0 2 2 true,(h.new (.cells v.cells e)).new (.vec (l++v.cells) e sz)):=by
   unfold D9;simp only[lenOf,G1,c1,c2,pO];rfl
  rw[e1,Ar];refine hk _ (.inr ⟨a_,rfl,Ad _ _,by rw[aF,ll,a];omega⟩) rfl ((As.new _ _).Dn _)
def pP(L:List Fr):Prop:=∀f∈L,f.Wf/\hH f=true
theorem zb(a b c d e:EV){x y:List EV}(h:x.length=y.length):Mf ([a,b,c,d,e]++x) 5 y=some ([a,b,c,d,e]++y):=by
 rw[rU (by rw[aF,h];exact aD _)];have:([a,b,c,d,e]++x).drop (5+y.length) = []:=cr (by rw[aF,h];exact aD _);rw[this,cT];rfl
theorem TL {x:Int}{l:List Nat}(a:l.length=44):iU (D1 [(0,1),(1,1),(2,1),(3,1),(4,1),(5,44)]) [(0,EV.int .i64 4),(1,I zn),(3,I y),(4,I x),(5,.agg (Be l))] (List.replicate 5 (EV.int .i64 0)++List.replicate 44 (EV.int .u8 0))=some (Fr.mk 4 zn 0 y x l).cells:=by
 show Bc (Nat.beq (Fp (Be l)) 44) (oB (fun z=>some z) (Mf ([I 4,I zn,I 0,I y,I x]++List.replicate 44 (.int .u8 0)) 5 (Be l))) none=_;rw[Bb,Az,a,zb _ _ _ _ _ (by rw[Az,a,bO])];rfl
theorem TM {x z:Int}(h:kA x y z es=true):(1<=x/\x<=281474976710655)/\(1<=y/\y<=4294967295)/\1<=z/\z<=281474976710655:=by
 unfold kA at h;simp only[aX,aW]at h;exact⟨h.1,h.2.1,h.2.2.1.1,h.2.2.1.2⟩
section
variable (H:Cf disp)
theorem TN(hK:1000<K){c r:Ah}{ll f:Nat}{g:Gm}(s:Sm g)(m:Qs h0 b ml ll g es)(o:HB h0){x z:Int}(x0:1<=x)(x1:x<=281474976710655)(y0:1<=y)(y1:y<=4294967295)(z0:0<=zn)(z1:zn<=65535)(lt:h0.next<=t)(lf:h0.next<=f)(tf:t≠f):
 ∀(n i:Nat) (h:Ab) (v:EV) (q:Nat) (L:List Fr) (F:Fr),g.parts.toNat-i<n->1<=i->i<=g.parts->Ext h0 h->HB h->h.get t=some (.cells [I x,I y,I z,.ptr b 0] 58)->h.get f=some (.cells F.cells 136)->F.Wf->F.Ai=zn->F.Ap=y->F.seq=x->L.length=i->pP L->ji h v q 136 49 i (L.map Fr.cells).flatten->h0.next<=q->q≠t->q≠f ->
 Ok (R9 c r K n (.ptr t 0) (.ptr f 0) v (I i) h) fun w h'=>∃v q L,w=.tuple [v,I 0]/\ji h' v q 136 49 L.length (L.map Fr.cells).flatten/\h0.next<=q/\(L.length:Int)=g.parts/\pP L/\Ext h0 h'/\HB h':=by
 have:=s.b0;have:=s.b1;have hp:2<=g.parts/\g.parts<=200:=by unfold Gm.parts;omega
 intro n;induction n with
 | zero=>intro i h v q L F hn;omega
 | succ n ih=>
  intro i h v q L F hn i1 hi V hb gt gf w fz fe fs hL hI row lq qt qf;rw[R9];simp only[Aa];rw[Al gt rfl (v:=.ptr b 0) rfl];have mh:=m.frame (V.get _ (o _ _ m.map) id) (V.get _ (o _ _ m.row) id) (V.get _ (o _ _ m.live) id);refine(rN (K:=K) mh hb).Ao ?_;rintro _ h2 ⟨rfl,x2,bj⟩;rw[zc s,Ar];have O:Ext h (h2.new (.cells (gL g) 23)):=x2.Dn _;generalize h2.new (.cells (gL g) 23)=h3 at O⊢;have u:=O.hb hb;have W:=O.at hb gt;have al:=O.at hb gf;have C:=row.frame (h':=h3) fun y=>O.get _ (row.lt hb y) id
  simp only[I,Ac];by_cases X:(i:Int)<g.parts
  ·simp only[X,aB,Aa,zd]
   rw[Cz W rfl,Ak (n:=4) rfl];simp only[Aa];have E:Ext h0 h3:=V.trans O;refine(TB hK s (m.frame (E.get _ (o _ _ m.map) id) (E.get _ (o _ _ m.row) id) (E.get _ (o _ _ m.live) id)) u a_ a_).Ao ?_;rintro _ h4 ⟨⟨l,rfl,hl,hu⟩,x4,aq⟩;have Y:=x4.at u al;have l4:=aq _ _ Y;have pQ:Ext h0 h4:=E.trans x4;have aa:=C.frame (h':=h4) fun y=>x4.get _ (C.lt u y) id
   have aw:=x4.at u W;refine Ok.gK Y rfl rfl (by rw[Fr.Bm w];decide) ?_;refine Ok.gK (Ae _ _ _) rfl rfl (by rw[bM,Fr.Bm w];decide) ?_;have e5:((F.cells.set 0 (.int .i64 5)).set 2 (.int .i64 (i:Int))) = [I 5,I F.Ai,I i,I F.Ap,I F.seq]++Be F.body:=rfl;rw[e5];refine Ok.st ([I 5,I F.Ai,I i,I F.Ap,I F.seq]++Be l) (Ae _ _ _) rfl (by show Fp (Be l)=44;rw[Bb,Az,hl]) (zb (y:=Be l) _ _ _ _ _ (by rw[Az,Az,w.len,hl])) ?_;have x5:Ext h0 (((h4.put f (.cells (F.cells.set 0 (.int .i64 5)) 136)).put f (.cells ([I 5,I F.Ai,I i,I F.Ap,I F.seq]++Be F.body) 136)).put f (.cells ([I 5,I F.Ai,I i,I F.Ap,I F.seq]++Be l) 136)):=((pQ.Aq (.inr lf) l4 _).Aq (.inr lf) l4 _).Aq (.inr lf) l4 _;have G:(((h4.put f (.cells (F.cells.set 0 (.int .i64 5)) 136)).put f (.cells ([I 5,I F.Ai,I i,I F.Ap,I F.seq]++Be F.body) 136)).put f (.cells ([I 5,I F.Ai,I i,I F.Ap,I F.seq]++Be l) 136)).get f=some (.cells (Fr.mk 5 F.Ai i F.Ap F.seq l).cells 136):=Ae _ _ _;have U:(((h4.put f (.cells (F.cells.set 0 (.int .i64 5)) 136)).put f (.cells ([I 5,I F.Ai,I i,I F.Ap,I F.seq]++Be F.body) 136)).put f (.cells ([I 5,I F.Ai,I i,I F.Ap,I F.seq]++Be l) 136)).get t=some (.cells [I x,I y,I z,.ptr b 0] 58):=by
    rw[Af _ (cX tf),Af _ (cX tf),Af _ (cX tf)];exact aw
   have J:=aa.frame (h':=(((h4.put f (.cells (F.cells.set 0 (.int .i64 5)) 136)).put f (.cells ([I 5,I F.Ai,I i,I F.Ap,I F.seq]++Be F.body) 136)).put f (.cells ([I 5,I F.Ai,I i,I F.Ap,I F.seq]++Be l) 136))) fun y=>by
    rw[Af _ (cX qf),Af _ (cX qf),Af _ (cX qf)]
   generalize (((h4.put f (.cells (F.cells.set 0 (.int .i64 5)) 136)).put f (.cells ([I 5,I F.Ai,I i,I F.Ap,I F.seq]++Be F.body) 136)).put f (.cells ([I 5,I F.Ai,I i,I F.Ap,I F.seq]++Be l) 136))=h5 at x5 G U J⊢;have p:=x5.hb o;have w5:(Fr.mk 5 F.Ai i F.Ap F.seq l).Wf:=⟨hl,hu⟩;rw[Cu G rfl (Ak (Fr.Bm w5))];refine TK J p rfl rfl (Fr.Bm w5) a_ a_ ?_;intro h6 ad n6 c6;simp only[ze,I,Ac];rw[Cn,show((i:Nat):Int)+1=((i+1:Nat):Int) from a_];have t5:=p _ _ U;have f5:=p _ _ G;refine ih (i+1) h6 _ (h5.next+1) (L++[Fr.mk 5 F.Ai i F.Ap F.seq l]) _ a_ a_ a_ (x5.then c6 fun j hj a=>by omega) (c6.hb p) (c6.at p U fun y=>qt y.2.symm) (c6.at p G fun y=>qf y.2.symm) w5 fz fe fs (by rw[aF,hL];rfl) ?_ ?_ (by have:=x5.next;omega) a_ a_
   ·intro fr ax
    rcases bH.1 ax with y|y
    ·exact hI fr y
    ·rw[aN]at y
     subst y;refine⟨w5,?_⟩;simp only[hH,wi,aX,aW,fz,fe,fs];omega
   ·rw[cI,cz,show([Fr.mk 5 F.Ai i F.Ap F.seq l].map Fr.cells).flatten=(Fr.mk 5 F.Ai i F.Ap F.seq l).cells from cT _];exact .inl ad
  ·simp only[X,aA,Aa,zf]
   exact .ret ⟨v,q,L,rfl,by rw[hL];exact C,lq,by rw[hL];omega,hI,V.trans O,u⟩
include H
theorem TO(hd:7<=d)(hK:1000<K){ll:Nat}{g:Gm}(hr:rtB g=true)(m:Qs h b ml ll g es)(hb:HB h){x z:Int}(hR:kA x y z es=true)(n0:0<=zn)(n1:zn<g.D*g.Z):
 Ok (Ag TT disp K d false 63 [.agg [I x,I y,I z,.ptr b 0],I zn] h) fun w h'=>∃v q L,w=.tuple [v,I 0]/\ji h' v q 136 49 L.length (L.map Fr.cells).flatten/\h.next<=q/\(L.length:Int)=g.parts/\pP L/\Ext h h'/\HB h':=by
 have s:=Qu hr;obtain⟨⟨x0,x1⟩,⟨y0,y1⟩,z0,z1⟩:=TM hR;have:=s.b0;have:=s.b1;have:=s.s0;have:=s.d0;have:=s.d1;have:=s.z0;have:=s.z1;obtain⟨m0,m1⟩:=Nz (a:=g.D) (b:=g.Z) (A:=8) (B:=64);obtain⟨e,rfl⟩:=fc d;rw[TQ H a_];simp only[zg,Aa];obtain⟨h1,e_,w1,g1,a6⟩:=nW h (.cells [I x,I y,I z,.ptr b 0] 58);rw[e_];have u:=w1.hb hb;have C:=m.frame (w1.get _ (hb _ _ m.map) id) (w1.get _ (hb _ _ m.row) id) (w1.get _ (hb _ _ m.live) id);rw[Cz g1 rfl,Ak (n:=4) rfl];simp only[Aa];refine(y_ (K:=K) H (d:=e) a_ hK s C u x y z).Ao ?_;rw[hR];rintro _ h2 ⟨rfl,U,E⟩;have g2:=U.at u g1;simp only[Aa,Ac];rw[Al g2 rfl (v:=.ptr b 0) rfl];have W:=C.frame (U.get _ (u _ _ C.map) id) (U.get _ (u _ _ C.row) id) (U.get _ (u _ _ C.live) id);refine(rN (K:=K) W E).Ao ?_;rintro _ h3 ⟨rfl,x3,X⟩;refine(vm (K:=K) (g:=g) X zn 0).Ao ?_;rintro _ h4 ⟨rfl,x4⟩;have hh:Mn g zn 0=true:=by
  simp only[Mn,hr,wi,bG,aX,aW];omega
 rw[hh];have G:=x4.hb X;simp only[Aa,zh,zi];have o:Ext h2 h4:=x3.trans x4;have Y:=o.at E g2;have l4:=G _ _ Y;have m4:=W.frame (o.get _ (E _ _ W.map) id) (o.get _ (E _ _ W.row) id) (o.get _ (E _ _ W.live) id);rw[Jg l4,Al Y rfl (v:=I y) rfl]
 try simp only[Aa,Au]
 rw[Jg l4,Al Y rfl (v:=I x) rfl]
 try simp only[Aa,Au]
 rw[Jg l4,Cz Y rfl,Ak (n:=4) rfl]
 try simp only[Aa,Au]
 refine Ok.bE (P:=fun v h'=>nh v/\Ext h4.lift h') ((SZ hK s (m4.frame (Bx _ _) (Bx _ _) (Bx _ _)) (Dj G) a_ a_).mono fun _ _ a=>⟨a.1,a.2.1⟩) (fun _ _ p=>p.2) ?_;rintro _ bf h5 ⟨⟨l,rfl,hl,hu⟩,_⟩ _ x5;have J:=x5.hb G;have g5:=x5.at G Y;have w5:(Fr.mk 4 zn 0 y x l).Wf:=⟨hl,hu⟩;rw[Ax (l:=(Fr.mk 4 zn 0 y x l).cells) ?_]
 ·simp only[Aa,Au]
  rw[J1];refine Ok.rM (xs:=(Fr.mk 4 zn 0 y x l).cells) (Ad _ _) (by simp) (Fr.Bm w5) ?_;obtain⟨V,e_,x6,g6,n6⟩:=nP h5 (.cells (List.replicate 5 (EV.int .i64 0)++List.replicate 44 (.int .u8 0)) 136) (.cells (Fr.mk 4 zn 0 y x l).cells 136);rw[e_];have O:=x6.hb J;rw[Cz g6 rfl,Ak (Fr.Bm w5)];simp only[Aa];rw[Vt (v:=.agg (Fr.mk 4 zn 0 y x l).cells) rfl (by simp) (Fr.Bm w5),Ar];have x7:Ext V (V.new (.cells (Fr.mk 4 zn 0 y x l).cells 136)):=As.new _ _;have ai:Ext h V:=(((w1.trans U).trans o).trans x5).trans x6;have aj:Ext h (V.new (.cells (Fr.mk 4 zn 0 y x l).cells 136)):=ai.trans x7;have k1:=(w1.trans U).next
  have k2:=o.next
  have k3:=x5.next
  have lg:=J _ _ g5;refine TN hK s m hb x0 x1 y0 y1 n0 a_ (aD _) (f:=h5.next) a_ a_ K 1 _ (.slice V.next 0 1 1 false) V.next [Fr.mk 4 zn 0 y x l] (Fr.mk 4 zn 0 y x l) (by unfold Gm.parts;omega) (aD _) (by unfold Gm.parts;omega) aj (x7.hb O) (x7.at O (x6.at J g5)) (x7.at O g6) w5 rfl rfl rfl rfl ?_ (.inr ⟨rfl,rfl,?_,?_⟩) a_ a_ a_
  ·intro fr aa
   rw[aN]at aa;subst aa;refine⟨w5,?_⟩;simp only[hH,wi,aX,aW];omega
  ·rw[show([Fr.mk 4 zn 0 y x l].map Fr.cells).flatten=(Fr.mk 4 zn 0 y x l).cells from cT _];exact Ad _ _
  ·rw[show([Fr.mk 4 zn 0 y x l].map Fr.cells).flatten=(Fr.mk 4 zn 0 y x l).cells from cT _];exact Fr.Bm w5
 ·exact TL hl
end
end
section
def rX(X:List (List EV)):Prop:=∀x∈X,x.length=64/\U8 x
theorem ji.ix{s:EV}{len:Nat}{l:List EV}(r:ji h s q e sz len l)(hj:j<len)(k:EV->R):Wn sz s (I j) k=k (.ptr q (j*sz)):=by
 rcases r with r|⟨rfl,rfl,c,d⟩
 ·exact r.ix hj .i64 k
 ·unfold I;rw[Lg hj,bJ]
theorem ji.lC{s:EV}{len:Nat}{l x:List EV}(r:ji h s q e sz len l)(f:0<len){o:Nat}(a:Ly l o n=some x)(k:EV->R):Q4 n (.ptr q o) h k=k (.agg x):=by
 rcases r with r|⟨rfl,rfl,c,d⟩
 ·exact Cu (r.block f) rfl a
 ·exact Cu c rfl a
theorem ji.Gi{s:EV}{len:Nat}{l:List EV}(r:ji h s q e sz len l)(k:EV->R):Ev.Gi s k=k (I len):=by
 rcases r with r|⟨rfl,rfl,c,d⟩
 ·exact r.Gi k
 ·rfl
theorem TR(o:pP L){f:Fr}(a:L[i]? = some f):Ly (L.map Fr.cells).flatten (i*49) 49=some f.cells:=
 SX (n:=49) _ _ _ (fun x p=>by obtain⟨f,a,rfl⟩:=cN.1 p;exact Fr.Bm (o f a).1) (by rw[bB,a];rfl)
theorem TS(hK:10000<K){c r:Ah}{v3 O:Nat}{fv:EV}(U:pP L)(hL:L.length<=200)(l3:h0.next<=v3)(lq:h0.next<=O):
 ∀(n i:Nat) (h:Ab) (v:EV) (q:Nat) (X:List (List EV)),L.length-i<n->i<=L.length->Ext h0 h->HB h0->HB h->h.get v3=some (.cells Bh 73)->ji h fv O 136 49 L.length (L.map Fr.cells).flatten->X.length=i->rX X->Ce h v q 32 64 i X.flatten->(0<i->h0.next<=q/\q≠O/\q≠v3) ->
 Ok (Qf c r K n (.ptr v3 0) v fv (I L.length) (I i) h) fun w h'=>∃v q X,w=.tuple [v,I 0]/\Ce h' v q 32 64 X.length X.flatten/\(0<X.length->h0.next<=q)/\X.length=L.length/\rX X/\Ext h0 h'/\HB h':=by
 intro n;induction n with
 | zero=>intro i h v q X hn;omega
 | succ n ih=>
  intro i h v q X hn hi V W hb Y rf hX hS row J;rw[Qf];simp only[I,Ac];by_cases o:i<L.length
  ·have:decide ((i:Int)<(L.length:Int))=true:=by simp;omega
   simp only[this,Aa,zj];have w:(L[i]).Wf:=(U _ (bA o)).1;have fr:=(U _ (bA o)).2;have e1:=TR U (aE o);have ix:=rf.ix o;simp only[I]at ix;rw[ix,rf.lC a_ e1];generalize L[i]=f at w fr e1⊢
   try simp only[Aa]
   refine Ok.mk (by simp) (Fr.Bm w) fun h2 x2 g2 _=>?_
   have u:=x2.hb hb;rw[Cz (x2.at hb Y) rfl,Ak (n:=256) Nt];simp only[Aa];rw[Cu g2 rfl (Ak (Fr.Bm w))];refine(zk w fr u hK).Ao ?_;rintro _ h3 ⟨rfl,x3⟩;have ae:=x3.hb u;simp only[Aa];refine Ok.mk (by simp) (by rw[Az,oD w]) fun h4 x4 g4 _=>?_
   have C:=x4.hb ae;have p:Ext h h4:=(x2.trans x3).trans x4;have el:(Be (Ls f)).length=64:=by rw[Az,oD w]
   simp only[I,Ac,aC,aA,Aa,zm];rw[Cu g4 rfl (Ak el)];have E:=row.frame (h':=h4) fun y=>p.get _ (hb _ _ (row.block y)) id
   refine Ny E C rfl (by simp) el a_ a_ ?_;intro h5 G n5 c5;simp only[zo,Ac];rw[Cn,show((i:Nat):Int)+1=((i+1:Nat):Int) from a_];have lv:=hb _ _ Y;have af:=rf.lt hb a_;have nx:=p.next
   have c:As (fun j=>0<i/\j=q) h h5:=(Ext.to p).trans c5;refine ih (i+1) h5 _ (h4.next+1) (X++[Be (Ls f)]) a_ a_ (V.then c fun j hj a=>?_) W (c5.hb C) (c.at hb Y fun y=>(J y.1).2.2 y.2.symm) (rf.frame fun _=>c.get _ af fun y=>(J y.1).2.1 y.2.symm) (by rw[aF,hX];rfl) ?_ ?_ (fun _=>⟨by have:=V.next;omega,a_,a_⟩)
   ·have:=(J hj.1).1
    have:=hj.2;omega
   ·intro x hx
    rcases bH.1 hx with y|y
    ·exact hS x y
    ·rw[aN]at y
     subst y;exact⟨el,_,zp w,rfl⟩
   ·rw[cz,show([Be (Ls f)]).flatten=Be (Ls f)from cT _];exact G
  ·have:i=L.length:=a_
   subst this;have:decide ((L.length:Int)<(L.length:Int))=false:=by simp
   simp only[this,Aa,zr];exact .ret ⟨v,q,X,rfl,by rw[hX];exact row,fun y=>(J a_).1,hX,hS,V,hb⟩
section
variable (H:Cf disp)
include H
theorem TU(hd:8<=d)(hK:10000<K){ll:Nat}{g:Gm}(hr:rtB g=true)(m:Qs h b ml ll g es)(hb:HB h){x z:Int}(hR:kA x y z es=true)(n0:0<=zn)(n1:zn<g.D*g.Z):
 Ok (Ag TT disp K d false 174 [Tu,.agg [I x,I y,I z,.ptr b 0],I zn] h) fun w h'=>∃v q X,w=.tuple [v,I 0]/\Ce h' v q 32 64 X.length X.flatten/\(0<X.length->h.next<=q)/\(X.length:Int)=g.parts/\rX X/\Ext h h'/\HB h':=by
 have s:=Qu hr;have:=s.b0;have:=s.b1;obtain⟨e,rfl⟩:=fc d;rw[TV H a_];simp only[zt,Tu,Aa];have w1:Ext h ((h.new (.cells Bh 73)).new (.cells [I x,I y,I z,.ptr b 0] 58)):=(As.new _ _).Dn _;have c1:((h.new (.cells Bh 73)).new (.cells [I x,I y,I z,.ptr b 0] 58)).get h.next=some (.cells Bh 73):=by rw[Ba _ (aT _)];exact Ad _ _
 have G:((h.new (.cells Bh 73)).new (.cells [I x,I y,I z,.ptr b 0] 58)).get (h.next+1)=some (.cells [I x,I y,I z,.ptr b 0] 58):=Ad _ _;have o:((h.new (.cells Bh 73)).new (.cells [I x,I y,I z,.ptr b 0] 58)).next=h.next+2:=rfl
 rw[show(h.new (.cells Bh 73)).next=h.next+1 from rfl];generalize (h.new (.cells Bh 73)).new (.cells [I x,I y,I z,.ptr b 0] 58)=h1 at w1 c1 G o⊢;have a:=w1.hb hb;rw[Cz G rfl,Ak (n:=4) rfl];simp only[Aa];refine(TO (K:=K) H (d:=e) a_ a_ hr (m.frame (w1.get _ (hb _ _ m.map) id) (w1.get _ (hb _ _ m.row) id) (w1.get _ (hb _ _ m.live) id)) a hR n0 n1).Ao ?_;rintro _ h2 ⟨v,q,L,rfl,row,lq,O,U,J,p⟩;simp only[Aa,I,Ac,aC,aA,zu];rw[row.Gi];have hp:g.parts<=200:=by unfold Gm.parts;omega
 have u:Ext h h2:=w1.trans J;refine(TS hK U a_ (aD h.next) (by have:=w1.next;omega) K 0 h2 _ 0 [] a_ a_ u hb p (J.at a c1) row rfl (fun x V=>by cases V) (Ce.nil _ _ _ _) (fun y=>absurd y (bX _))).mono ?_;rintro _ h3 ⟨W,q',X,rfl,f,C,Y,hS,xx,E⟩;exact⟨W,q',X,rfl,f,C,by rw[Y];exact O,hS,xx,E⟩
end
end
structure Dk(S T:Jp):Prop where
 n:T.dv.n=S.dv.n
 size:T.dv.size=S.dv.size
 op:T.dv.op=S.dv.op
 ev:T.ev.length+T.Le.length=S.ev.length+S.Le.length
theorem Dk.refl(S:Jp):Dk S S:=⟨rfl,rfl,rfl,rfl⟩
theorem Dk.trans {S T U:Jp}(a:Dk S T)(b:Dk T U):Dk S U:=⟨b.n.trans a.n,b.size.trans a.size,b.op.trans a.op,b.ev.trans a.ev⟩
def Vk(D E:Dv):Prop:=E.n=D.n/\E.size=D.size/\E.op=D.op
theorem TW(D:Dv)(i:Int)(st:Nat):Vk D (D.fail i st):=by
 unfold Dv.fail;split<;>exact⟨rfl,rfl,rfl⟩
theorem TX(D:Dv)(z off:Int)(p:List EV):Vk D (D.lE z off p):=by
 unfold Dv.lE;split<;>exact⟨rfl,rfl,rfl⟩
theorem zx(D:Dv)(e:Jj):Vk D (D.N3 e):=by
 unfold Dv.N3
 repeat' split
 all_goals first|exact TX _ _ _ _|exact TW _ _ _|exact⟨rfl,rfl,rfl⟩
theorem zy:∀(ev:List Jj) (D:Dv) (Le:List Jj),Dk ⟨D,ev,Le⟩ (jj ev D Le)
 | [],D,Le=>by unfold jj;exact⟨rfl,rfl,rfl,rfl⟩
 | e::r,D,Le=>by
  unfold jj;split
  ·exact⟨rfl,rfl,rfl,rfl⟩
  ·have f:=zy r (D.N3 e) (Le++[e])
   obtain⟨a,b,c⟩:=zx D e;refine⟨f.n.trans a,f.size.trans b,f.op.trans c,f.ev.trans ?_⟩;show r.length+(Le++[e]).length=(e::r).length+Le.length;simp only[aF,bP,fF];omega
theorem zA(S:Jp):Dk S S.due:=zy S.ev S.dv S.Le
theorem oF(S:Jp)(i:Int):Dk S (S.begin i):=by
 unfold Jp.begin;split
 ·exact zA S
 ·exact Dk.refl S
theorem pR {S:Jp}(v:Vk S.dv D):Dk S { S with dv:=D }:=⟨v.1,v.2.1,v.2.2,rfl⟩
theorem TY(D:Dv)(i:Int)(x:List EV):Vk D (D.append i x).1:=by
 unfold Dv.append
 repeat' split
 all_goals exact⟨rfl,rfl,rfl⟩
theorem TZ(D:Dv)(i:Int):Vk D (D.reset i).1:=by
 unfold Dv.reset
 repeat' split
 all_goals exact⟨rfl,rfl,rfl⟩
theorem T'(D:Dv)(i:Int):Vk D (D.finish i).1:=by
 unfold Dv.finish
 repeat' split
 all_goals exact⟨rfl,rfl,rfl⟩
theorem T_(D:Dv):Vk D D.flush.1:=by
 unfold Dv.flush;split<;>exact⟨rfl,rfl,rfl⟩
theorem zB(S:Jp)(i:Int)(x:List EV):Dk S (S.append i x).1:=(oF S i).trans (pR (S:=S.begin i) (TY _ i x))
theorem zC(S:Jp)(i:Int):Dk S (S.reset i).1:=(oF S i).trans (pR (S:=S.begin i) (TZ _ i))
theorem zD(S:Jp)(i:Int):Dk S (S.finish i).1:=(oF S i).trans (pR (S:=S.begin i) (T' _ i))
theorem rY(S:Jp):Dk S S.flush.1:=(zA S).trans (pR (S:=S.due) (T_ _))
section
abbrev Tv:=Int->Nat->List EV->Prop
def Aq4(p:List EV):Prop:=∃l:List Nat,l.length=64/\(∀b∈l,b<256)/\p=Be l/\¬Q7 0 l=0
structure Fz where
 z:Int->Prop
 u:Int->Int->Prop
structure A8d(fz:Fz)(ev:List Jj):Prop where
 one:∀e∈ev,¬e.kind=4/\fz.z e.Ai/\(e.kind=1->Aq4 e.pat/\fz.u e.Ai e.off)
 pw:ev.Pairwise fun a b=>a.kind=1->b.kind=1->¬(a.Ai=b.Ai/\a.off=b.off)
structure DI(fz:Fz)(R:Tv)(S:Jp):Prop where
 up:S.dv.down=false
 ev:A8d fz S.ev
 st:∀z:Int,S.dv.has z=true->(S.dv.zs z.toNat).st<=4/\(¬fz.z z->(S.dv.zs z.toNat).st<=2)
 rc:∀w o s,R w o s->S.dv.has w=true/\((S.dv.zs w.toNat).l[o]? = some s\/(fz.z w/\fz.u w o/\∃p,Aq4 p/\(S.dv.zs w.toNat).l[o]? = some (Sa s p)/\∀e∈S.ev,¬(e.kind=1/\e.Ai=w/\e.off=o)))
theorem DI.sub {fz:Fz}{R Q:Tv}{S:Jp}(a:DI fz R S)(h:∀w o s,Q w o s->R w o s):DI fz Q S:=⟨a.up,a.ev,a.st,fun w o s q=>a.rc w o s (h w o s q)⟩
theorem rZ{z w:Int}(a:D.has z=true)(hw:D.has w=true)(e:z.toNat=w.toNat):z=w:=by
 have:=cS a;have:=cS hw;omega
section
variable {fz:Fz}{R:Tv}{S:Jp}
theorem DI.dv(a:DI fz R S){ev:List Jj}(n:D.n=S.dv.n)(up:D.down=false)(C:A8d fz ev)(E:∀e∈ev,e∈S.ev)(st:∀z:Int,S.dv.has z=true->(D.zs z.toNat).st<=4/\(¬fz.z z->(D.zs z.toNat).st<=2))
 (rc:∀w o s,R w o s->S.dv.has w=true->(D.zs w.toNat).l[o]? = (S.dv.zs w.toNat).l[o]?\/(fz.z w/\fz.u w o/\∃p,Aq4 p/\(S.dv.zs w.toNat).l[o]? = some s/\(D.zs w.toNat).l[o]? = some (Sa s p)/\∀e∈ev,¬(e.kind=1/\e.Ai=w/\e.off=o))):DI fz R ⟨D,ev,Le⟩:=by
 have G:∀z,D.has z=S.dv.has z:=fun z=>by unfold Dv.has;rw[n]
 refine⟨up,C,fun z J=>st z (by rw[<-G];exact J),fun w o s r=>?_⟩;obtain⟨b,c⟩:=a.rc w o s r;refine⟨by show D.has w=true;rw[G];exact b,?_⟩;show(D.zs w.toNat).l[o]? = some s\/_;rcases rc w o s r b with e|⟨f,u,p,sp,e1,e2,no⟩
 ·rcases c with c|⟨f,u,p,sp,c,no⟩
  ·exact .inl (e.trans c)
  ·exact .inr ⟨f,u,p,sp,e.trans c,fun x O=>no x (E x O)⟩
 ·exact .inr ⟨f,u,p,sp,e2,no⟩
theorem A8d.tail {e:Jj}{r:List Jj}(a:A8d fz (e::r)):A8d fz r:=⟨fun x f=>a.one x (aP _ f),(List.pairwise_cons.1 a.pw).2⟩
theorem DI.N3{e:Jj}{r hap':List Jj}(a:DI fz R ⟨D,e::r,Le⟩):DI fz R ⟨D.N3 e,r,hap'⟩:=by
 obtain⟨k4,E,U⟩:=a.ev.one e (aQ ..);have G:∀x∈r,x∈e::r:=fun x J=>aP _ J
 have vk:=zx D e;have same:DI fz R ⟨D,r,hap'⟩:=a.dv rfl a.up a.ev.tail G a.st fun w o s _ _=>.inl rfl
 have fail:∀st,st<=4->DI fz R ⟨D.fail e.Ai st,r,hap'⟩:=fun st X=>by
  unfold Dv.fail;by_cases h:D.has e.Ai=true
  case neg=>rw[aH h];exact same
  rw[aK h];have zl:∀i,(Ke D.zs e.Ai.toNat ((D.zs e.Ai.toNat).fail st) i).l=(D.zs i).l:=fun i=>by
   unfold Ke;split
   next y=>subst y;unfold Zn.fail;split<;>rfl
   ·rfl
  refine a.dv rfl a.up a.ev.tail G (fun z f=>?_) fun w o s _ _=>.inl ?_
  ·show(Ke D.zs e.Ai.toNat _ z.toNat).st<=4/\(_->(Ke D.zs e.Ai.toNat _ z.toNat).st<=2)
   unfold Ke;split
   next y=>
    refine⟨?_,fun O=>absurd (by rw[rZ f h y];exact E) O⟩;unfold Zn.fail;split
    ·exact X
    ·exact(a.st _ h).1
   ·exact a.st z f
  ·show(Ke D.zs e.Ai.toNat _ w.toNat).l[o]? = _
   rw[zl]
 unfold Dv.N3;split
 next C=>
  unfold Dv.lE;by_cases h:D.has e.Ai=true/\0<=e.off/\e.off<(D.zs e.Ai.toNat).l.length
  case neg=>rw[aH h];exact same
  rw[aK h];obtain⟨h1,h2,h3⟩:=h;refine a.dv rfl a.up a.ev.tail G (fun z f=>?_) fun w o s V hw=>?_
  ·show(Ke D.zs e.Ai.toNat _ z.toNat).st<=4/\(_->(Ke D.zs e.Ai.toNat _ z.toNat).st<=2)
   unfold Ke;split
   next y=>
    exact⟨(a.st _ h1).1,fun O=>absurd (by rw[rZ f h1 y];exact E) O⟩
   ·exact a.st z f
  ·show(Ke D.zs e.Ai.toNat _ w.toNat).l[o]? = (D.zs w.toNat).l[o]?\/(fz.z w/\fz.u w o/\∃p,Aq4 p/\(D.zs w.toNat).l[o]? = some s/\(Ke D.zs e.Ai.toNat _ w.toNat).l[o]? = some (Sa s p)/\_)
   unfold Ke;by_cases y:w.toNat=e.Ai.toNat
   case neg=>rw[aH y];exact .inl rfl
   rw[aK y];have Y:=rZ hw h1 y;subst Y;by_cases W:e.off.toNat=o
   case neg=>exact .inl (by show((D.zs e.Ai.toNat).l.set e.off.toNat _)[o]? = _;rw[cR,aH W])
   subst W;have go:(e.off.toNat:Int)=e.off:=a_
   refine .inr ⟨E,by rw[go];exact(U C).2,e.pat,(U C).1,?_,?_,fun x J y=>(List.pairwise_cons.1 a.ev.pw).1 x J C y.1 ⟨y.2.1.symm,by have:=y.2.2;omega⟩⟩
   ·rcases(a.rc _ _ _ V).2 with c|⟨_,_,p,_,c,no⟩
    ·exact c
    ·exact absurd ⟨C,rfl,a_⟩ (no e (aQ ..))
   ·show((D.zs e.Ai.toNat).l.set e.off.toNat _)[e.off.toNat]? = _
    rw[cR,aK rfl,aK a_];rcases(a.rc _ _ _ V).2 with c|⟨_,_,p,_,c,no⟩
    ·have c:(D.zs e.Ai.toNat).l[e.off.toNat]? = some s:=c
     rw[c];rfl
    ·exact absurd ⟨C,rfl,a_⟩ (no e (aQ ..))
 ·split
  ·exact fail 3 c_
  ·split
   ·exact fail 4 c_
   ·exact same
theorem DI.jj:∀{ev:List Jj} {D:Dv} {Le:List Jj},DI fz R ⟨D,ev,Le⟩->DI fz R (Ev.jj ev D Le)
 | [],D,Le,a=>by unfold Ev.jj;exact a
 | e::r,D,Le,a=>by
  unfold Ev.jj;split
  ·exact a
  ·exact DI.jj (a.N3 (hap':=Le++[e]))
theorem DI.due(a:DI fz R S):DI fz R S.due:=DI.jj (ev:=S.ev) (D:=S.dv) (Le:=S.Le) a
theorem DI.begin(a:DI fz R S)(i:Int):DI fz R (S.begin i):=by
 unfold Jp.begin;split
 ·exact a.due
 ·exact a
theorem DI.r8(a:DI fz R S)(i:Int):¬S.dv.D8 i=34:=by
 unfold Dv.D8;rw[a.up];split
 next y=>cases y
 ·split<;>decide
theorem zE(D:Dv)(i:Int):Vk D (D.begin i):=by
 unfold Dv.begin;split<;>exact⟨rfl,rfl,rfl⟩
theorem vn(s:Nat):¬Jr s=34:=by
 unfold Jr;split
 ·decide
 ·split<;>decide
theorem DI.UA(a:DI fz R S)(i:Int)(x:List EV):DI fz R ⟨(S.dv.append i x).1,S.ev,S.Le⟩/\¬(S.dv.append i x).2.2=34/\((S.dv.append i x).2.2=0->0<=(S.dv.append i x).2.1/\DI fz (fun w o s=>R w o s\/(w=i/\o=(S.dv.append i x).2.1.toNat/\s=x)) ⟨(S.dv.append i x).1,S.ev,S.Le⟩):=by
 have tick:DI fz R ⟨S.dv.tick,S.ev,S.Le⟩:=a.dv rfl a.up a.ev (fun _ h=>h) a.st fun w o s _ _=>.inl rfl
 unfold Dv.append;by_cases h0:S.dv.D8 i≠0
 ·rw[aK h0]
  exact⟨a,a.r8 i,fun y=>absurd y h0⟩
 rw[aH h0];by_cases h1:(S.dv.zs i.toNat).st=0/\S.dv.op<=iV S.dv.zs S.dv.n
 ·rw[aK h1]
  exact⟨tick,by show ¬(33:Int)=34;decide,fun y=>by cases y⟩
 rw[aH h1];by_cases h2:2<=(S.dv.zs i.toNat).st
 ·rw[aK h2]
  refine⟨tick,?_,fun y=>?_⟩
  ·show ¬(if _ then _ else _)=_
   split
   ·decide
   ·exact vn _
  ·have f:=cS (p:=0<=i/\i<S.dv.n) (by
    have h0:=eE.1 h0;unfold Dv.D8 at h0;cases f:S.dv.has i with
    | true=>exact f
    | false=>rw[f,a.up]at h0;cases h0)
   have C:=(a.st i (aR f)).1;have y:(if(S.dv.zs i.toNat).st=2 then 17 else Jr (S.dv.zs i.toNat).st)=0:=y;unfold Jr at y;split at y
   ·cases y
   ·split at y
    ·cases y
    ·split at y
     ·cases y
     ·omega
 rw[aH h2];obtain⟨j,rfl,hj⟩:=Dv.oy (eE.1 h0);have hi:S.dv.has (j:Int)=true:=aR ⟨a_,a_⟩;have st:∀z:Int,S.dv.has z=true->((S.dv.tick.set ((j:Int)).toNat ((S.dv.zs ((j:Int)).toNat).app S.dv.size x)).zs z.toNat).st<=4/\(¬fz.z z->((S.dv.tick.set ((j:Int)).toNat ((S.dv.zs ((j:Int)).toNat).app S.dv.size x)).zs z.toNat).st<=2):=fun z u=>by
  show(Ke S.dv.zs _ _ z.toNat).st<=4/\(_->(Ke S.dv.zs _ _ z.toNat).st<=2);unfold Ke;split
  ·have:((S.dv.zs (j:Int).toNat).app S.dv.size x).st<=2:=by
    unfold Zn.app;show(if _ then 2 else 1)<=2;split<;>omega
   exact⟨a_,fun _=>this⟩
  ·exact a.st z u
 have By:∀(w:Int) (o:Nat) s,(S.dv.zs w.toNat).l[o]? = some s->((S.dv.tick.set ((j:Int)).toNat ((S.dv.zs ((j:Int)).toNat).app S.dv.size x)).zs w.toNat).l[o]? = some s:=fun w o s h=>by
  show(Ke S.dv.zs _ _ w.toNat).l[o]? = _;unfold Ke;split
  next y=>
   rw[<-y];show((S.dv.zs w.toNat).l++[x])[o]? = _;rw[bW (aZ.1 h).1];exact h
  ·exact h
 have m:DI fz R ⟨S.dv.tick.set ((j:Int)).toNat ((S.dv.zs ((j:Int)).toNat).app S.dv.size x),S.ev,S.Le⟩:=by
  refine a.dv rfl a.up a.ev (fun _ h=>h) st fun w o s r _=>.inl ?_
  rcases(a.rc w o s r).2 with c|⟨_,_,p,_,c,_⟩<;>rw[c]<;>exact By _ _ _ c
 refine⟨m,by show ¬(0:Int)=34;decide,fun _=>⟨by show(0:Int)<=(_:Nat);omega,m.up,m.ev,m.st,fun w o s r=>?_⟩⟩;rcases r with r|⟨rfl,rfl,rfl⟩
 ·exact m.rc w o s r
 ·refine⟨hi,.inl ?_⟩
  show(Ke S.dv.zs _ _ (j:Int).toNat).l[((((S.dv.zs (j:Int).toNat).l.length:Nat):Int)).toNat]? = _;unfold Ke;rw[aK rfl];show((S.dv.zs (j:Int).toNat).l++[s])[_]? = _;rw[bU a_,show((((S.dv.zs (j:Int).toNat).l.length:Nat):Int)).toNat-(S.dv.zs (j:Int).toNat).l.length=0 from a_];rfl
theorem DI.append(a:DI fz R S)(i:Int)(x:List EV):DI fz R (S.append i x).1/\¬(S.append i x).2.2=34/\((S.append i x).2.2=0->0<=(S.append i x).2.1/\DI fz (fun w o s=>R w o s\/(w=i/\o=(S.append i x).2.1.toNat/\s=x)) (S.append i x).1):=(a.begin i).UA i x
theorem DI.read(a:DI fz R S)(i off:Int):DI fz R (S.read i off).1/\¬(S.read i off).2.2=34:=by
 have b:=a.begin i;refine⟨b.dv (zE _ i).1 (by unfold Dv.begin;split<;>exact b.up) b.ev (fun _ h=>h) (fun z f=>by unfold Dv.begin;split<;>exact b.st z f) fun w o s _ _=>.inl (by unfold Dv.begin;split<;>rfl),?_⟩;show ¬((S.begin i).dv.read i off).2=34;unfold Dv.read;split
 ·exact b.r8 i
 ·unfold Ym
  split
  ·show ¬(32:Int)=34;decide
  ·split
   ·show ¬(0:Int)=34;decide
   ·show ¬(31:Int)=34;decide
theorem DI.finish(a:DI fz R S)(i:Int):DI fz R (S.finish i).1/\¬(S.finish i).2=34:=by
 have b:=a.begin i;refine⟨?_,?_⟩
 ·show DI fz R ⟨((S.begin i).dv.finish i).1,(S.begin i).ev,(S.begin i).Le⟩
  unfold Dv.finish;split
  ·exact b
  ·show DI fz R ⟨if _ then _ else _,_,_⟩
   split
   ·refine b.dv rfl b.up b.ev (fun _ h=>h) (fun z f=>?_) fun w o s _ _=>.inl ?_
    ·show(Ke _ _ _ z.toNat).st<=4/\(_->(Ke _ _ _ z.toNat).st<=2)
     unfold Ke;split
     ·exact⟨by show 2<=4;decide,fun _=>aD 2⟩
     ·exact b.st z f
    ·show(Ke _ _ _ w.toNat).l[o]? = _
     unfold Ke;split
     next y=>rw[y];rfl
     ·rfl
   ·exact b.dv rfl b.up b.ev (fun _ h=>h) b.st fun w o s _ _=>.inl rfl
 ·show ¬((S.begin i).dv.finish i).2=34
  unfold Dv.finish;split
  ·exact b.r8 i
  ·exact vn _
theorem DI.reset(a:DI fz R S)(i:Int)(h:∀w o s,R w o s->¬w=i):DI fz R (S.reset i).1/\¬(S.reset i).2=34:=by
 have b:=a.begin i;refine⟨?_,?_⟩
 ·show DI fz R ⟨((S.begin i).dv.reset i).1,(S.begin i).ev,(S.begin i).Le⟩
  unfold Dv.reset;by_cases h0:(S.begin i).dv.D8 i≠0
  ·rw[aK h0];exact b
  ·rw[aH h0]
   obtain⟨j,rfl,hj⟩:=Dv.oy (eE.1 h0);have hi:(S.begin j).dv.has (j:Int)=true:=aR ⟨a_,a_⟩;show DI fz R ⟨if _ then _ else _,_,_⟩;split
   ·refine b.dv rfl b.up b.ev (fun _ h=>h) (fun z f=>?_) fun w o s r hw=>.inl ?_
    ·show(Ke _ _ _ z.toNat).st<=4/\(_->(Ke _ _ _ z.toNat).st<=2)
     unfold Ke;split
     ·exact⟨cF 4,fun _=>cF 2⟩
     ·exact b.st z f
    ·show(Ke _ _ _ w.toNat).l[o]? = _
     unfold Ke;rw[aH (fun y=>h w o s r (rZ hw hi y))];rfl
   ·exact b.dv rfl b.up b.ev (fun _ h=>h) b.st fun w o s _ _=>.inl rfl
 ·show ¬((S.begin i).dv.reset i).2=34
  unfold Dv.reset;split
  ·exact b.r8 i
  ·exact vn _
theorem DI.flush(a:DI fz R S):DI fz R S.flush.1/\¬S.flush.2=34:=by
 have b:=a.due;have e:S.due.dv.flush=({ S.due.dv.tick with zs:=fun i=>(S.due.dv.zs i).flush },0):=by unfold Dv.flush;rw[aH (by rw[b.up];decide)]
 unfold Jp.flush;rw[e];exact⟨b.dv rfl b.up b.ev (fun _ h=>h) (fun z f=>b.st z f) fun w o s _ _=>.inl rfl,by show ¬(0:Int)=34;decide⟩
end
end
variable {fz:Fz}{R':Tv}
theorem xd(k a b:Nat):(a ^^^ b)/2^k=(a/2^k) ^^^ (b/2^k):=by
 have:=Nat.shiftRight_xor_distrib (a:=a) (b:=b) (i:=k);simpa [eP]using this
theorem pQ(a b c d:Nat):(a ^^^ b) ^^^ (c ^^^ d)=(a ^^^ c) ^^^ (b ^^^ d):=by
 rw[eB,<-eB b,Nat.xor_comm b,eB c,<-eB]
theorem UB(x y:Nat):iB (x ^^^ y)=iB x ^^^ iB y:=by
 have h:∀z,iB z=if z%2=1 then z/2 ^^^ 2197175160 else z/2:=fun z=>by
  unfold iB;rw[show Nat.land z 1=z%2 from fW z];by_cases e:z%2=1
  ·rw[e,aK rfl];rfl
  ·rw[aH e,show z%2=0 from a_];rfl
 rw[h,h,h];have e1:=xd 1 x y;have e2:=fO (a:=x) (b:=y) (n:=1);rw[Nat.pow_one]at e1 e2;rw[e1,e2];rcases Nat.mod_two_eq_zero_or_one x with a|a<;>rcases Nat.mod_two_eq_zero_or_one y with b|b<;>rw[a,b]
 ·rfl
 ·show(x/2 ^^^ y/2) ^^^ 2197175160=x/2 ^^^ (y/2 ^^^ 2197175160)
  rw[eB]
 ·show(x/2 ^^^ y/2) ^^^ 2197175160=(x/2 ^^^ 2197175160) ^^^ y/2
  rw[eB,Nat.xor_comm (y/2),eB]
 ·show x/2 ^^^ y/2=(x/2 ^^^ 2197175160) ^^^ (y/2 ^^^ 2197175160)
  rw[pQ,Nat.xor_self,Nat.xor_zero]
def r9(i:Nat):Nat:=iB (iB (iB (iB (iB (iB (iB (iB i)))))))
theorem UC:lG=(List.range 256).map r9:=by kernel_rfl
theorem r_(h:i<256):(lG[i]?).getD 0=r9 i:=by
 rw[UC,bB,cB h];rfl
theorem UD {r f c o:Nat}(u:c<256)(p:o<256):iW (r ^^^ f) (c ^^^ o)=iW r c ^^^ iW f o:=by
 unfold iW;have e1:=xd 8 r f;have e2:=fO (a:=r) (b:=f) (n:=8);rw[show(2:Nat)^8=256 from rfl]at e1 e2;have i1:(r%256) ^^^ c<2^8:=cu (n:=8) (fU _ c_) u;have i2:(f%256) ^^^ o<2^8:=cu (n:=8) (fU _ c_) p;have i3:=cu i1 i2;rw[e1,e2,pQ (r%256),r_ i3,r_ i1,r_ i2,pQ (r/256)];congr 1;unfold r9;simp only[UB]
theorem zF:∀(a b:List Nat) (r f:Nat),a.length=b.length->(∀x∈a,x<256)->(∀x∈b,x<256)->Q7 (r ^^^ f) (List.zipWith Nat.xor a b)=Q7 r a ^^^ Q7 f b
 | [],[],r,f,_,_,_=>rfl
 | x::a,y::b,r,f,h,p,hb=>by
  show Q7 (iW (r ^^^ f) (x ^^^ y)) (List.zipWith Nat.xor a b)=_;rw[UD (p x (aQ ..)) (hb y (aQ ..))];exact zF a b _ _ (by simpa using h) (fun z o=>p z (aP _ o)) fun z o=>hb z (aP _ o)
 | [],y::b,_,_,h,_,_=>by cases h
 | x::a,[],_,_,h,_,_=>by cases h
theorem UE(a b:Nat):Tf 4 (a ^^^ b)=List.zipWith Nat.xor (Tf 4 a) (Tf 4 b):=by
 have m:=fun x y=>fO (a:=x) (b:=y) (n:=8)
 have d1:=xd 8 a b;have d2:=xd 16 a b;have d3:=xd 24 a b;simp only[show(2:Nat)^8=256 from rfl,show(2:Nat)^16=65536 from rfl,show(2:Nat)^24=16777216 from rfl]at m d1 d2 d3;rw[pT,pT,pT,d1,d2,d3,m,m,m,m];rfl
theorem zG:∀(t a b:List Nat),t.length=a.length->t.length=b.length->List.zipWith Nat.xor t a=List.zipWith Nat.xor t b->a=b
 | [],[],[],_,_,_=>rfl
 | x::t,y::a,z::b,h1,h2,h=>by
  have h:(x ^^^ y)::List.zipWith Nat.xor t a=(x ^^^ z)::List.zipWith Nat.xor t b:=h;injection h with e r;have e2:=congrArg (fun n=>x ^^^ n) e;simp only[<-eB,Nat.xor_self,Nat.zero_xor]at e2;rw[e2,zG t a b (by simpa using h1) (by simpa using h2) r]
 | [],y::a,_,h,_,_=>by cases h
 | [],[],z::b,_,h,_=>by cases h
 | x::t,[],_,h,_,_=>by cases h
 | x::t,y::a,[],_,h,_=>by cases h
theorem UF {v:Nat}(a:v<4294967296):Q7 v (Tf 4 v)=0:=by
 have s:∀r,iW r (r%256)=r/256:=fun r=>by
  unfold iW;rw[Nat.xor_self,r_ c_,show r9 0=0 by kernel_rfl,Nat.xor_zero]
 rw[pT];show iW (iW (iW (iW v (v%256)) (v/256%256)) (v/65536%256)) (v/16777216%256)=0;rw[s,s,show v/65536=v/256/256 from a_,s,show v/16777216=v/256/256/256 from a_,s];omega
theorem UG {s p:List Nat}(a:s.length=64)(u:p.length=64)(us:∀b∈s,b<256)(up:∀b∈p,b<256)(o:jJ s=true)(E:¬Q7 0 p=0):jJ (List.zipWith Nat.xor s p)=false:=by
 cases h:jJ (List.zipWith Nat.xor s p)with
 | false=>rfl
 | true=>
 exfalso;have G:(List.zipWith Nat.xor s p).length=64:=by rw[List.length_zipWith,a,u];rfl
 unfold jJ at h o;rw[aW,G,List.take_zipWith,List.drop_zipWith]at h;rw[aW,a]at o;simp only[show 64-4=60 from rfl]at h o;have ut:∀b∈s.take 60,b<256:=fun b hb=>us b (bI hb)
 have C:∀b∈p.take 60,b<256:=fun b hb=>up b (bI hb)
 have le:(s.take 60).length=(p.take 60).length:=by rw[bK,bK,a,u]
 have f:=zF (s.take 60) (p.take 60) 4294967295 0 le ut C;rw[Nat.xor_zero]at f;have e:E5 (List.zipWith Nat.xor (s.take 60) (p.take 60))=E5 (s.take 60) ^^^ Q7 0 (p.take 60):=by
  unfold E5;rw[f,eB,Nat.xor_comm (Q7 0 _),<-eB]
 rw[e,UE,o]at h;have c:=zG _ _ _ (by rw[av,Gn,a]) (by rw[av,av,a,u]) h;have v:=UF (v:=Q7 0 (p.take 60)) (pU _ _ c_ C);rw[c]at v;refine E ?_;rw[<-eJ 60 p];unfold Q7 at v⊢;rw[List.foldl_append];exact v
structure UH(disp:Nat->Option FT)(K:Nat)(h:Ab)(m:Nat)(S:Mi)(F:Nat->Prop)(D V:Nat):Prop where
 Da:∀k:EV->Ab->R,Ao (Bw K (.ptr m 0) h) k=k (.ptr D 0) h
 Bpl:Bw K (.ptr m 0) h.lift=some (.ptr D 0,h.lift)
 table:Ok (Kc K (.ptr m 0) h.lift) fun v h'=>v=Tu/\Ext h.lift h'
 device:∀k:EV->Ab->R,Ao (Eu K (.ptr D 0) h) k=k (.ptr V 0) h
 state:∀(i:Int) (k:EV->Ab->R),Ao (Jw K (.ptr V 0) (I i) h) k=k (I (if S.dr.dv.has i=true then(S.dr.dv.zs i.toNat).st else 4)) h
 reset:∀{d:Nat},14<=d->∀i:Int,0<(S.dr.begin i).dv.size->Ok (Ag TT disp K d false 96 [.ptr D 0,I i] h) fun v h'=>v=I (S.dr.reset i).2/\C0 h' m { S with dr:=(S.dr.reset i).1 } F/\Kf F h h'/\HB h'
 finish:∀{d:Nat},14<=d->∀i:Int,Ok (Ag TT disp K d false 179 [.ptr D 0,I i] h) fun v h'=>v=I (S.dr.finish i).2/\C0 h' m { S with dr:=(S.dr.finish i).1 } F/\Kf F h h'/\HB h'
 flush:∀{d:Nat},14<=d->Ok (Ag TT disp K d false 52 [.ptr D 0] h) fun v h'=>v=I S.dr.flush.2/\C0 h' m { S with dr:=S.dr.flush.1 } F/\Kf F h h'/\HB h'
 append:∀{d:Nat},14<=d->∀(z:Int) {x:List EV},x.length=64->U8 x->∀{i b:Nat} {s:DX} {k:EV->Ab->DX->R} {Q:EV->Ab->Prop},Afc b s=true->loose b s.nw = []->(∀w,Yj b w s.Cx=true) ->
  (∀h' s',C0 h' m { S with dr:=(S.dr.append z x).1 } F->Kf F h h'->HB h'->Ok (k (.tuple [I (S.dr.append z x).2.1,I (S.dr.append z x).2.2]) h' s') Q)->Ok (Ev.Mc i b s h (fun h=>Ag TT disp K d false 177 [.ptr D 0,I z,.agg x] h) k) Q
theorem ni(A:Cf disp)(hK:10000<K){S:Mi}(M:C0 h m S F)(hb:HB h):∃D V,UH disp K h m S F D V:=by
 obtain⟨lt,D,p,bl,ql,np,q,c,G,a⟩:=M.s;obtain⟨V,Y,qc,qh,cs,hs,ms,F',b⟩:=a.drv.Mh;have due:lu disp K S.dr:=sa A a_ S.dr;have E:=a.Hp.ext (h':=h.lift) fun i o g=>by rw[Bx];exact g
 refine⟨D,V,⟨fun k=>by rw[vo a.Hp,Ar],vo E,UI E (Dj hb),fun k=>by rw[UJ b,Ar],fun i k=>by rw[UK b.dev,Ar],?_,?_,?_,?_⟩⟩
 ·intro d hd i hs
  refine(SP A a_ hd due a.drv hb i hs).mono ?_;rintro _ h' ⟨rfl,s2,c2,f⟩;obtain⟨M2,u⟩:=M.drv hb a s2 c2;exact⟨rfl,M2,u,f⟩
 ·intro d hd i
  refine(zH A hd due a.drv hb i).mono ?_;rintro _ h' ⟨rfl,s2,c2,f⟩;obtain⟨M2,u⟩:=M.drv hb a s2 c2;exact⟨rfl,M2,u,f⟩
 ·intro d hd
  refine(zI A a_ hd due a.drv hb).mono ?_;rintro _ h' ⟨rfl,s2,c2,f⟩;obtain⟨M2,u⟩:=M.drv hb a s2 c2;exact⟨rfl,M2,u,f⟩
 ·intro d hd z x J hu i b' s k Q b0 b1 b2 hk
  refine Ok.pV (S:=G) b0 b1 b2 (zJ (K:=K) A a_ (d:=d) hd due a.drv.lift (Dj hb) z J hu) (fun _ _ p=>p.2.2.1) ?_;rintro _ h6 O s' ⟨rfl,d6,_,C⟩ sm U _;obtain⟨W,X⟩:=M.drv hb a (d6.same sm) U;exact hk O s' W X (sm.hb C)
section
def arC(m:Nat)(cur By:Nat->Int):List EV:=[.ptr m 0,I (cur 0),I (By 0),I (cur 1),I (By 1),I (cur 2),I (By 2)]
structure Dz(z:Int)(S T:Jp)(e:Int):Prop where
 k:Dk S T
 iv:∀fz R,(∀w o s,R w o s->¬w=z)->DI fz R S->DI fz R T/\¬e=34
theorem Dz.refl(z:Int)(S:Jp){e:Int}(h:¬e=34):Dz z S S e:=⟨Dk.refl _,fun _ _ _ a=>⟨a,h⟩⟩
theorem Dz.trans {z:Int}{S T U:Jp}{e:Int}(a:Dz z S T e)(b:Dz z T U e'):Dz z S U e':=⟨a.k.trans b.k,fun fz R h d=>b.iv fz R h (a.iv fz R h d).1⟩
theorem Dz.to {z:Int}{S T:Jp}{e:Int}(a:Dz z S T e)(h:¬e'=34):Dz z S T e':=⟨a.k,fun fz R n d=>⟨(a.iv fz R n d).1,h⟩⟩
def se(h h':Ab)(m:Nat)(S:Mi)(F:Nat->Prop)(z:Int)(v:EV):Prop:=∃(e:Int) (a:Jp),v=I e/\C0 h' m { S with dr:=a } F/\Dz z S.dr a e/\Kf F h h'/\HB h'
section
variable (A:Cf disp)(hK:10000<K){By:Nat->Int}{S:Mi}(M:C0 h m S F)(hb:HB h)(hA:h.get ar=some (.cells (arC m cur By) 126))(fA:F ar){z:Int}
include A hK M hb hA
theorem UL(hd:15<=d)(hs:0<S.dr.dv.size):Ok (Ag TT disp K d false 176 [.ptr ar 0,I z] h) fun v h'=>se h h' m S F z v:=by
 obtain⟨e,rfl⟩:=fc d;rw[UN A a_];simp only[zK,Aa];rw[Al hA rfl (v:=.ptr m 0) rfl];obtain⟨D,V,dr⟩:=ni A hK M hb;rw[dr.Da,dr.device,dr.state];generalize (if S.dr.dv.has z=true then((S.dr.dv.zs z.toNat).st:Int)else 4)=st;simp only[I,Ac];by_cases o:st=0
 ·simp only[o,aB,Aa]
  exact .ret ⟨_,S.dr,rfl,M,Dz.refl _ _ c_,As.refl _,hb⟩
 ·simp only[o,aA,Aa,zL]
  rw[Al hA rfl (v:=.ptr m 0) rfl,dr.Da];refine(dr.reset (d:=e) a_ z (by rw[(oF S.dr z).size];exact hs)).Ao ?_;rintro _ h' ⟨rfl,M2,p,f⟩;exact .ret ⟨_,_,rfl,M2,⟨zC _ _,fun fz R n a=>a.reset z n⟩,p,f⟩
omit hA hb M in
theorem UO(hd:14<=d){X:List (List EV)}(hX:rX X)(ah:X.length<=1000){v:EV}:∀(f i:Nat) (h:Ab) (S:Mi),X.length-i<f->i<=X.length->C0 h m S F->HB h->h.get ar=some (.cells (arC m cur By) 126)->F ar->F q->Ce h v q 32 64 X.length X.flatten ->
 Ok (Lw (Ag TT disp K d false) (Ag TT disp K d true) K f (.ptr ar 0) (I z) v (I X.length) (I i) h) fun w h'=>se h h' m S F z w:=by
 intro f;induction f with
 | zero=>intro i h S hf;omega
 | succ f ih=>
  intro i h S hf hi M hb hA fA fq row;rw[Lw];simp only[I,Ac];by_cases u:i<X.length
  ·have:decide ((i:Int)<(X.length:Int))=true:=by simp;omega
   simp only[this,Aa,zM];obtain⟨O,xu⟩:=hX _ (bA u);have e1:Ly X.flatten (i*64) 64=some X[i]:=yG (n:=64) _ _ _ (fun x hx=>(hX x hx).1) (aE u);have ix:=row.ix u .i64;rw[ix,Cu (row.block a_) rfl e1];generalize X[i]=x at O xu
   try simp only[Aa]
   refine Ok.uX (Ad _ _) (by simp) O ?_;obtain⟨h2,e_,U,g2,_⟩:=nP h (.cells (List.replicate 64 (EV.int .u8 0)) 32) (.cells x 32);rw[e_];have o:=U.hb hb;have C:=U.at hb hA;have M2:=(M.ext hb U).less fun j (hj:F j)=>Or.inl hj
   have l2:=o _ _ C;have l3:=o _ _ g2;obtain⟨D,V,dr⟩:=ni A hK M2 o;rw[Jg l2,Al C rfl (v:=.ptr m 0) rfl]
   try simp only[Aa,Au]
   rw[mi dr.Bpl]
   try simp only[Aa,Au]
   rw[Jg l3,Cu g2 rfl (Ak O)]
   try simp only[Aa,Au]
   refine dr.append hd z O xu (by kernel_rfl) (by kernel_rfl) (fun _=>by kernel_rfl) ?_;intro h4 s4 W k4 E;have dk:Dz z S.dr (S.dr.append z x).1 (S.dr.append z x).2.2:=⟨zB S.dr z x,fun fz R _ a=>⟨(a.append z x).1,(a.append z x).2.1⟩⟩;generalize (S.dr.append z x)=R at W dk⊢;obtain⟨R1,ro,re⟩:=R;have p:Kf F h h4:=(Ext.kf U).trans k4;simp only at W dk;have fin:∀e:Int,Dz z S.dr R1 e->Ok (some (EV.int .i64 e,h4)) fun w h'=>se h h' m S F z w:=fun e d=>.ret ⟨e,R1,rfl,W,d,p,E⟩
   simp only[Aa,I,Ac];by_cases G:re=0
   ·subst G
    simp only[aB,Aa,Ac];by_cases J:ro=(i:Int)
    ·simp only[J,aC,aA,Aa,Ac,Pu,Pj,zN]
     rw[Cn,show((i:Nat):Int)+1=((i+1:Nat):Int) from a_];refine(ih (i+1) h4 _ a_ a_ W E (p.at hb hA fA) fA fq (row.frame fun y=>p.get _ (hb _ _ (row.block y)) fun y=>y fq)).mono ?_;rintro _ h5 ⟨e,D',rfl,M5,c5,k5,Y⟩;exact⟨e,D',rfl,M5,dk.trans c5,p.trans k5,Y⟩
    ·simp only[J,aG,aB,Aa,Ac,Pu,Pj,show ¬((30:Int)=0) from c_]
     exact fin 30 (dk.to c_)
   ·simp only[G,aA,Aa,Ac,Pu,Pj,aG,aB]
    exact fin re dk
  ·have:i=X.length:=a_
   subst this;have:decide ((X.length:Int)<(X.length:Int))=false:=by simp
   simp only[this,Aa,zO];rw[Al hA rfl (v:=.ptr m 0) rfl];obtain⟨D,V,dr⟩:=ni A hK M hb;rw[dr.Da,dr.device];have st:=dr.state z;simp only[I]at st;rw[st];generalize (if S.dr.dv.has z=true then((S.dr.dv.zs z.toNat).st:Int)else 4)=st';simp only[I,Ac];by_cases hz:st'=2
   ·simp only[hz,aB,Aa]
    exact .ret ⟨0,S.dr,rfl,M,Dz.refl _ _ c_,As.refl _,hb⟩
   ·simp only[hz,aA,Aa,zP]
    rw[Al hA rfl (v:=.ptr m 0) rfl,dr.Da];refine(dr.finish (d:=d) hd z).Ao ?_;rintro _ h' ⟨rfl,M2,k2,o⟩;exact .ret ⟨_,_,rfl,M2,⟨zD _ _,fun fz R _ a=>a.finish z⟩,k2,o⟩
end
end
section
section
variable (A:Cf disp)(hK:10000<K){ll:Nat}{By:Nat->Int}{S:Mi}(M:C0 h m S F)(hb:HB h)(hA:h.get ar=some (.cells (arC m cur By) 126))(fA:F ar)(hr:rtB S.g=true)(mp:Qs h b ml ll S.g es){x z:Int}(hR:kA x y z es=true)(n0:0<=zn)(n1:zn<S.g.D*S.g.Z)
include A hK M hb hA fA hr mp hR n0 n1
theorem UP(hd:17<=d)(hs:0<S.dr.dv.size):Ok (Ag TT disp K d false 138 [.ptr ar 0,.agg [I x,I y,I z,.ptr b 0],I zn] h) fun v h'=>se h h' m S F zn v:=by
 have s:=Qu hr;have hp:S.g.parts<=S.g.S:=by
  have:=hr;unfold rtB at this;simp only[aX,aW]at this;exact this.2.1
 have:=s.s0;have:=s.s1;have:=s.b0;have ao:1<=S.g.parts:=by unfold Gm.parts;omega
 obtain⟨e,rfl⟩:=fc d;rw[UQ A a_];simp only[zQ,Aa];obtain⟨h1,e_,Y,g1,aw⟩:=nW h (.cells [I x,I y,I z,.ptr b 0] 58);rw[e_];have o:=Y.hb hb;have J:=Y.at hb hA;have M1:=(M.ext hb Y).less fun j (hj:F j)=>Or.inl hj
 have l1:=o _ _ J;obtain⟨D,V,dr⟩:=ni A hK M1 o;rw[Jg l1,Al J rfl (v:=.ptr m 0) rfl]
 try simp only[Aa,Au]
 refine Ok.bE dr.table (fun _ _ p=>p.2) ?_;rintro _ ay h2 ⟨rfl,_⟩ _ x2;have E:=x2.hb o;have g2:=x2.at o g1;have l2:=E _ _ g2;have ad:h.next<h1.next:=a_
 try simp only[Aa,Au]
 rw[Jg ad,Cz g2 rfl,Ak (n:=4) rfl]
 try simp only[Aa,Au]
 have a:Ext h h2:=Y.trans x2;have ae:Qs h2.lift b ml ll S.g es:=(mp.frame (a.get _ (hb _ _ mp.map) id) (a.get _ (hb _ _ mp.row) id) (a.get _ (hb _ _ mp.live) id)).frame (Bx _ _) (Bx _ _) (Bx _ _);refine Ok.bE (TU (K:=K) A (d:=e) a_ hK hr ae (Dj E) hR n0 n1) (fun _ _ p=>by obtain⟨_,_,_,_,_,_,_,_,p,_⟩:=p;exact p) ?_;rintro _ az h3 ⟨v,q,X,rfl,row,lq,hL,hX,_,_⟩ sm x3;have u:=x3.hb E;have f:Ce h3 v q 32 64 X.length X.flatten:=row.frame fun _=>sm.get _
 have hq:h2.next<=q:=lq a_
 simp only[Aa,I,Ac,aC,aA,zR];have G:Ext h h3:=a.trans x3;have O:=G.at hb hA;have M3:C0 h3 m S (fun i=>F i\/i=q):=(M.ext hb G).less fun j hj=>by
  rcases hj with hj|hj
  ·exact .inl hj
  ·subst hj
   have:=u _ _ (f.block a_);have:=a.next
   exact .inr ⟨a_,a_⟩
 refine(UL (K:=K) A hK M3 u O (z:=zn) (d:=e) a_ hs).Ao ?_;rintro _ h4 ⟨e4,D',rfl,M4,c4,k4,U⟩;have W:Kf F h h4:=(Ext.kf G).trans (k4.less fun j hj=>.inl hj);simp only[Aa,I,Ac];by_cases h0:e4=0
 ·simp only[h0,aC,aA,Aa,zS]
  have C:=f.frame (h':=h4) fun y=>k4.get _ (u _ _ (f.block y)) fun w=>w (.inr rfl)
  rw[C.Gi];refine(UO (K:=K) A hK (d:=e) a_ hX a_ K 0 h4 _ a_ a_ M4 U (k4.at u O (.inl fA)) (.inl fA) (.inr rfl) C).mono ?_;rintro _ h5 ⟨e5,D2,rfl,M5,c5,k5,ah⟩;exact⟨e5,D2,rfl,M5.less fun j hj=>.inl hj,c4.trans c5,W.trans (k5.less fun j hj=>.inl hj),ah⟩
 ·simp only[h0,aG,aB,Aa]
  exact .ret ⟨e4,D',rfl,M4.less fun j hj=>.inl hj,c4,W,U⟩
end
end
section
def Jq(f:Nat->Int)(i:Nat)(v:Int):Nat->Int:=fun j=>if j=i then v else f j
theorem UR{By:Nat->Int}(hi:i<3):(arC m cur By)[1+i*2+1]? = some (I (By i)):=by
 rcases i with _|_|_|i<;>first|rfl|omega
theorem US{By:Nat->Int}(hi:i<3):(arC m cur By)[1+i*2]? = some (I (cur i)):=by
 rcases i with _|_|_|i<;>first|rfl|omega
theorem zT{By:Nat->Int}(hi:i<3)(v:Int):(arC m cur By).set (1+i*2+1) (I v)=arC m cur (Jq By i v):=by
 rcases i with _|_|_|i<;>first|rfl|omega
theorem vp{By:Nat->Int}(hi:i<3)(v w:Int):Mf (arC m cur By) (1+i*2) [I v,I w]=some (arC m (Jq cur i v) (Jq By i w)):=by
 rcases i with _|_|_|i<;>first|rfl|omega
theorem vq {S:Mi}{z:Int}(h:S.It z=false):0<=Cl S.g z->¬S.bad z.toNat=1:=by
 intro hd hb;unfold Mi.It at h;rw[aR hd,aR hb]at h;cases h
def ik(S:Mi)(o:Int)(i:Nat):Int × Mi:=
 if ¬o = -1/\S.It o=false then(o,S)else match S.ps i with
 | []=>(-1,S)
 | z::r=>(z,{ S with ps:=upd S.ps i r })
section
variable (A:Cf disp)(hK:10000<K){By:Nat->Int}{S:Mi}(M:C0 h m S F)(hb:HB h)(hA:h.get ar=some (.cells (arC m cur By) 126))(fA:F ar)(hi:i<3)
include hK M hb
theorem UT(hi:i<S.g.D.toNat){Q:EV->Ab->Prop}
 (hk:∀h',(S.ps i = []->C0 h' m S F->Kf F h h'->HB h'->Ok (k (.tuple [I 0,I 15]) h') Q)/\(∀z r,S.ps i=z::r->C0 h' m { S with ps:=upd S.ps i r } F->Kf F h h'->HB h'->Ok (k (.tuple [I z,I 0]) h') Q)) :
 Ok (Ao (Ci K (.ptr m 0) h) fun v h=>Ao (O2 K v (I i) h) k) Q:=by
 obtain⟨lt,D,p,bl,ql,np,q,c,G,a⟩:=M.s;rw[Xx a.Hp,Ar];have C:=a.psz.nd;subst C;refine(vr (K:=K) a.Ed hb a.psz a_ i).Ao ?_;rintro _ h' ⟨c3,u,x,e,o,rfl,O,U,alt⟩;obtain⟨a3,cH⟩:=a.oG hb O U c3;have wf:∀{o},(∀d,d<S.g.D.toNat->∀x∈o d,x∈S.ps d)->Mi.Wf { S with ps:=o }:=fun sub=>{ toWp:=⟨M.wf.sm,fun d hd x f=>M.wf.ps d hd x (sub d hd x f)⟩,op:=M.wf.op }
 rcases alt with⟨y,_⟩|⟨_,_,y,rfl,rfl,rfl⟩|⟨_,_,rfl,r,y,rfl⟩
 ·omega
 ·obtain⟨E,J⟩:=M.made (R7.mono (H:=Out F h) ⟨fun i hi=>aL hi.1 cH.next,D,p,bl,ql,_,q,c,G,a3⟩ (fun _=>.inl) (Bi.lt lt cH.next)) cH (wf fun d hd x f=>f)
  exact(hk h').1 y E J u
 ·have y:S.ps i=x::r:=y
  obtain⟨E,J⟩:=M.made (R7.mono (H:=Out F h) ⟨fun i hi=>aL hi.1 cH.next,D,p,bl,ql,_,q,c,G,a3⟩ (fun _=>.inl) (Bi.lt lt cH.next)) cH (wf fun d hd V f=>by
   unfold upd at f;split at f
   next e=>
    have e:d=i:=e;subst e;rw[y];exact aP _ f
   ·exact f)
  exact(hk h').2 x r y E J u
include hA fA hi
theorem UU(O:Vp (By i)):Ok (Re K (.ptr ar 0) (I i) h) fun v h'=>v=I (ik S (By i) i).1/\C0 h' m (ik S (By i) i).2 F/\h'.get ar=some (.cells (arC m cur (Jq By i (-1))) 126)/\As (fun j=>¬F j\/j=ar) h h'/\HB h':=by
 have U:=hb _ _ hA;have sm:=M.wf.sm;have:=sm.d0;simp only[Re,Aa];unfold I;rw[kB hi]
 try simp only[Aa]
 rw[Al hA rfl (UR hi),kB hi]
 try simp only[Aa]
 refine Ok.gK hA rfl rfl (by show _<7;omega) ?_;rw[show(arC m cur By).set (1+i*2+1) (.int .i64 (-1))=arC m cur (Jq By i (-1))from zT hi (-1)];have c1:As (fun j=>j=ar) h (h.put ar (.cells (arC m cur (Jq By i (-1))) 126)):=(As.refl (S:=fun j=>j=ar) h).Aq (.inl rfl) U _;have f:(h.put ar (.cells (arC m cur (Jq By i (-1))) 126)).get ar=some (.cells (arC m cur (Jq By i (-1))) 126):=Ae _ _ _;generalize h.put ar (.cells (arC m cur (Jq By i (-1))) 126)=h1 at c1 f⊢;have a:=c1.hb hb;have E:=M.iC c1 fun j hj _=>hj▸fA
 have o:As (fun j=>¬F j\/j=ar) h h1:=c1.mono fun j hj=>.inr hj
 have take:∀h1,C0 h1 m S F->HB h1->h1.get ar=some (.cells (arC m cur (Jq By i (-1))) 126)->As (fun j=>¬F j\/j=ar) h h1->Ok (Tc K (.ptr ar 0) (.int .i64 (i:Int)) h1) fun v h'=>v=I (match S.ps i with | []=>(-1,S)|z::r=>(z,{ S with ps:=upd S.ps i r }):Int × Mi).1/\C0 h' m (match S.ps i with | []=>(-1,S)|z::r=>(z,{ S with ps:=upd S.ps i r }):Int × Mi).2 F/\h'.get ar=some (.cells (arC m cur (Jq By i (-1))) 126)/\As (fun j=>¬F j\/j=ar) h h'/\HB h':=by
  intro h1 E a f o;simp only[Tc,Aa];rw[Al f rfl (v:=.ptr m 0) rfl];refine UT hK E a (i:=i) a_ fun h'=>⟨fun e M2 G p=>?_,fun z r e M2 G p=>?_⟩
  ·rw[e]
   simp only[Aa,I,Ac];exact .ret ⟨rfl,M2,G.at a f fA,o.trans (G.mono fun j hj=>.inl hj),p⟩
  ·rw[e]
   simp only[Aa,I,Ac,aC,aA,zU];exact .ret ⟨rfl,M2,G.at a f fA,o.trans (G.mono fun j hj=>.inl hj),p⟩
 simp only[I,Ac];unfold ik;by_cases u:By i = -1
 ·rw[aH (fun y=>y.1 u)]
  simp only[u,aC,aA,Aa,Ac,Nr];exact take _ E a f o
 ·simp only[u,aG,aB,Aa,Ac,gF]
  rw[Al f rfl (v:=.ptr m 0) rfl];refine(N8 (K:=K) E.s a O).Ao ?_;rintro _ h2 ⟨rfl,C⟩;have p:=C.hb a;cases J:S.It (By i)with
  | true=>
   rw[aH (by simp)];simp only[Aa,Nr];exact take _ ((E.ext a C).less fun j (hj:F j)=>Or.inl hj) p (C.at a f) (o.trans (Ext.to C))
  | false=>
   rw[aK rfl];simp only[Aa,Nr];exact .ret ⟨rfl,(E.ext a C).less fun j (hj:F j)=>Or.inl hj,C.at a f,o.trans (Ext.to C),p⟩
end
end
section
structure MI(fz:Fz)(Q:Int->Prop)(R:Tv)(S:Mi):Prop where
 d:DI fz R S.dr
 w:S.Wp
 nd:∀d,d<S.g.D.toNat->(S.ps d).Nodup
 Ed:∀d,d<S.g.D.toNat->∀z∈S.ps d,(∀o s,¬R z o s)/\¬Q z/\¬z=S.a/\¬z=S.b
 opn:¬S.a = -1->(¬Q S.a/\¬Q S.b)/\(0<=Cl S.g S.a/\0<=Cl S.g S.b)/\¬Cl S.g S.a=Cl S.g S.b
 rq:∀w o s,R w o s->¬Q w/\0<=Cl S.g w
 ro:¬S.a = -1->∀w o s,R w o s->(w=S.a\/w=S.b)->(o:Int)<S.u
 ub:0<=S.u/\S.u<=S.g.S
section
variable{R:Tv}{S:Mi}
theorem MI.drv(m:MI fz Q R S){D:Jp}(d:DI fz R D):MI fz Q R { S with dr:=D }:=⟨d,⟨m.w.sm,m.w.ps⟩,m.nd,m.Ed,m.opn,m.rq,m.ro,m.ub⟩
theorem MI.sub(m:MI fz Q R S)(h:∀w o s,R' w o s->R w o s):MI fz Q R' S:=
 ⟨m.d.sub h,m.w,m.nd,fun d hd z f=>⟨fun o s r=>(m.Ed d hd z f).1 o s (h _ _ _ r),(m.Ed d hd z f).2⟩,m.opn,fun w o s r=>m.rq w o s (h _ _ _ r),fun a w o s r=>m.ro a w o s (h _ _ _ r),m.ub⟩
theorem MI.jr(m:MI fz Q R S){z:Int}(p:0<=Cl S.g z->¬S.bad z.toNat=1)(hr:∀o s,¬R z o s)(u:¬Q z)(C:¬z=S.a)(hb:¬z=S.b):MI fz Q R (S.jr z)/\¬(iX S.g S.g.D.toNat S.ps z).1=34:=by
 have mem:∀d,d<S.g.D.toNat->∀x∈(iX S.g S.g.D.toNat S.ps z).2 d,x∈S.ps d\/x=z:=fun d hd x f=>by
  unfold iX at f;split at f
  ·exact .inl f
  ·split at f
   ·exact .inl f
   ·split at f
    ·simp only[upd]at f
     split at f
     next e=>
      subst e;exact(bH.1 f).imp id aN.1
     ·exact .inl f
    ·exact .inl f
 refine⟨⟨m.d,⟨m.w.sm,vt m.w.ps _ z p⟩,fun d hd=>?_,fun d hd x f=>?_,m.opn,m.rq,m.ro,m.ub⟩,?_⟩
 ·show((iX S.g S.g.D.toNat S.ps z).2 d).Nodup
  unfold iX;split
  ·exact m.nd d hd
  ·split
   ·exact m.nd d hd
   next h1=>
    split
    ·simp only[upd]
     split
     next e=>
      subst e;refine List.nodup_append.2 ⟨m.nd _ hd,by simp,fun x f y E=>?_⟩;rw[aN.1 E];intro e;subst e;exact h1 (zV.2 ⟨_,hd,f⟩)
     ·exact m.nd d hd
    ·exact m.nd d hd
 ·rcases mem d hd x f with y|rfl
  ·exact m.Ed d hd x y
  ·exact⟨hr,u,C,hb⟩
 ·unfold iX
  split
  ·simp
  ·split
   ·simp
   ·split<;>simp
theorem MI.leave(m:MI fz Q R S){z u:Int}(C:S.It z=false->0<=Cl S.g z->¬S.bad z.toNat=1)(h:¬z = -1->u=0->(∀o s,¬R z o s)/\¬Q z)(E:¬z = -1->¬z=S.a/\¬z=S.b):MI fz Q R (S.leave z u).1/\¬(S.leave z u).2=34:=by
 unfold Mi.leave;split
 ·exact⟨m,by show ¬(0:Int)=34;decide⟩
 next h0=>
  split
  next hu=>
   have p:¬z = -1:=fun y=>h0 (.inl y)
   obtain⟨a,b⟩:=h p hu;obtain⟨c,d⟩:=E p;exact m.jr (C (by cases e:S.It z with|false=>rfl|true=>exact absurd (.inr (.inl e)) h0)) a b c d
  ·have f:=m.d.finish z
   exact⟨m.drv f.1,f.2⟩
theorem MI.close(m:MI fz Q R S)(hb:S.a = -1->S.b = -1):MI fz Q R S.close.1/\¬S.close.2=34:=by
 have s:=m.w.sm;have J:∀z,0<=Cl S.g z->¬z = -1:=fun z h y=>by have:=lI s h;omega
 have O:MI fz Q R { S with a:=-1,b:=-1,u:=0 }:=by
  refine⟨m.d,⟨m.w.sm,m.w.ps⟩,m.nd,fun d hd z f=>?_,fun y=>absurd rfl y,m.rq,fun y=>absurd rfl y,by have:=s.s0;show(0:Int)<=0/\0<=S.g.S;omega⟩;have p:=m.Ed d hd z f;have n:=J z (by rw[(m.w.ps d hd z f).1];omega);exact⟨p.1,p.2.1,n,n⟩
 have f:∀z,(z=S.a\/z=S.b)->¬z = -1->¬S.a = -1:=fun z h n y=>h.elim (fun e=>n (e.trans y)) fun e=>n (e.trans (hb y))
 have C:∀z,(z=S.a\/z=S.b)->¬z = -1->S.u=0->(∀o s,¬R z o s)/\¬Q z:=fun z h n u=>by
  have a:=f z h n;refine⟨fun o s r=>by have:=m.ro a z o s r h;omega,?_⟩;rcases h with rfl|rfl
  ·exact(m.opn a).1.1
  ·exact(m.opn a).1.2
 have E:∀(T:Mi) z,T.It z=false->0<=Cl T.g z->¬T.bad z.toNat=1:=fun T z h d=>vq h d
 have l1:=O.leave (z:=S.a) (u:=S.u) (E _ _) (fun n u=>C _ (.inl rfl) n u) fun n=>⟨n,n⟩
 obtain⟨_,U,V,_,_⟩:=sf { S with a:=-1,b:=-1,u:=0 } S.a S.u;have G:=l1.1.leave (z:=S.b) (u:=S.u) (E _ _) (fun n u=>C _ (.inr rfl) n u) fun n=>⟨by rw[U];exact n,by rw[V];exact n⟩
 unfold Mi.close;refine⟨G.1,?_⟩;show ¬(if _ then _ else _)=_;split
 ·exact G.2
 ·exact l1.2
theorem UW {z:Int}{x:Int}(h:x∈S.dropped z d):x∈S.ps d:=by
 unfold Mi.dropped at h;split at h
 ·exact h
 ·simp only[upd]at h
  split at h
  next e=>rw[e];exact(dS.1 h).1
  ·exact h
theorem MI.mark(m:MI fz Q R S){z:Int}(a:0<=Cl S.g z):MI fz Q R (S.mark z):=by
 refine⟨m.d,m.w.mark a,fun d hd=>?_,fun d hd x f=>m.Ed d hd x (UW f),m.opn,m.rq,m.ro,m.ub⟩;show(S.dropped z d).Nodup;unfold Mi.dropped;split
 ·exact m.nd d hd
 ·simp only[upd]
  split
  next e=>subst e;exact(m.nd _ hd).filter _
  ·exact m.nd d hd
theorem MI.Av(m:MI fz Q R S)(hb:S.a = -1->S.b = -1)(z:Int):MI fz Q R (S.Av z).1/\¬(S.Av z).2=34:=by
 unfold Mi.Av;split
 ·exact⟨m,by show ¬(13:Int)=34;decide⟩
 next h0=>
  split
  ·exact⟨m,by show ¬(16:Int)=34;decide⟩
  ·have f:=m.mark (z:=z) a_
   split
   ·exact⟨f,by show ¬(0:Int)=34;decide⟩
   ·have c:=f.close hb
    refine⟨c.1,?_⟩;show ¬(if _ then _ else _)=_;rw[aH c.2];decide
theorem MI.ready(m:MI fz Q R S):MI fz Q R S.ready.1/\¬S.ready.2=34/\(S.ready.2=0->¬S.ready.1.a = -1/\S.ready.1.u<S.g.S):=by
 unfold Mi.ready;have f:=m.d.flush;split
 next h=>
  exact⟨m,by show ¬(0:Int)=34;decide,fun _=>h⟩
 ·split
  next h=>
   exact⟨m.drv f.1,f.2,fun y=>absurd y h⟩
  ·cases Y:kC S.ps S.g.D.toNat with
   | none=>exact⟨m.drv f.1,by show ¬(40:Int)=34;decide,fun y=>by cases y⟩
   | some t=>
    obtain⟨x,y,E⟩:=t;obtain⟨a,b,h1,h2,h3,G,J,V,_,_,dx,dy⟩:=vu m.w.ps Y;have s:=m.w.sm;have W:=m.Ed a h1 x (by rw[G];exact aQ ..);have X:=m.Ed b h2 y (by rw[J];exact aQ ..);have sub:∀d z,z∈E d->z∈S.ps d:=fun d z C=>by
     by_cases d1:d=a
     ·subst d1;rw[G];exact aP _ C
     ·by_cases d2:d=b
      ·subst d2;rw[J];exact aP _ C
      ·rw[V d d1 d2]at C;exact C
    have O:=m.nd a h1;have U:=m.nd b h2;rw[G]at O;rw[J]at U;refine⟨⟨f.1,⟨s,fun d hd z C=>m.w.ps d hd z (sub d z C)⟩,fun d hd=>?_,fun d hd z C=>?_,fun _=>⟨⟨W.2.1,X.2.1⟩,⟨by show 0<=Cl S.g x;omega,by show 0<=Cl S.g y;omega⟩,by show ¬Cl S.g x=Cl S.g y;omega⟩,m.rq,fun _ w o s' r h=>?_,by show(0:Int)<=0/\(0:Int)<=S.g.S;have:=s.s0;omega⟩,by show ¬(0:Int)=34;decide,fun _=>⟨?_,by have:=s.s0;show(0:Int)<S.g.S;omega⟩⟩
    ·show(E d).Nodup
     by_cases d1:d=a
     ·subst d1;exact(cA.1 O).2
     ·by_cases d2:d=b
      ·subst d2;exact(cA.1 U).2
      ·rw[V d d1 d2];exact m.nd d hd
    ·have C:z∈E d:=C
     have p:=m.Ed d hd z (sub d z C);have dz:=(m.w.ps d hd z (sub d z C)).1;refine⟨p.1,p.2.1,fun e=>?_,fun e=>?_⟩
     ·have e:z=x:=e
      subst e;have:d=a:=a_
      subst this;exact(cA.1 O).1 C
     ·have e:z=y:=e
      subst e;have:d=b:=a_
      subst this;exact(cA.1 U).1 C
    ·rcases h with h|h
     ·have h:w=x:=h
      subst h;exact absurd r (W.1 o s')
     ·have h:w=y:=h
      subst h;exact absurd r (X.1 o s')
    ·show ¬x = -1
     have:=lI s (z:=x);omega
theorem MI.put(m:MI fz Q R S)(f:¬S.a = -1){z:Int}(p:z=S.a\/z=S.b)(hu:S.u<S.g.S)(e:En)(ep sq:Int):
 MI fz Q R (S.put e z mt ep sq).1/\¬(S.put e z mt ep sq).2=34/\((S.put e z mt ep sq).2=0->DI fz (fun w o s=>R w o s\/(w=z/\o=S.u.toNat/\s=lJ e z mt S.u ep sq)) (S.put e z mt ep sq).1.dr):=by
 unfold Mi.put;split
 next h=>
  refine⟨m,?_,fun y=>absurd y h⟩;show ¬(C8 _ _ _ _ _).2=34;unfold C8;split<;>simp
 ·have a:=m.d.append z (Be (Ls (C8 { e with Bj:=mt } z S.u ep sq).1))
  refine⟨m.drv a.1,?_,fun h=>?_⟩
  ·show ¬(if _ then _ else _)=_
   split
   ·decide
   ·exact a.2.1
  ·have h:(if _ then _ else _)=(0:Int):=h
   split at h
   ·cases h
   next h1=>
    have e1:(S.dr.append z (Be (Ls (C8 { e with Bj:=mt } z S.u ep sq).1))).2.1=S.u:=eE.1 fun y=>h1 ⟨h,y⟩
    have b:=(a.2.2 h).2;rw[e1]at b;exact b
end
end
section
theorem UX {g:Gm}{x:Me}(h:meB g x=true):Mn g x.Ai x.off=true/\Mn g x.Bj x.off=true/\¬Cl g x.Ai=Cl g x.Bj/\(1<=x.seq/\x.seq<=281474976710655)/\0<=x.sum/\x.sum<=4294967295:=by
 unfold meB at h;simp only[aX,aW]at h;exact⟨h.1,h.2.1,h.2.2.1,⟨h.2.2.2.1,h.2.2.2.2.1⟩,h.2.2.2.2.2.1,h.2.2.2.2.2.2⟩
theorem zW {g:Gm}{z off:Int}(h:Mn g z off=true):0<=Cl g z/\0<=off/\off<g.S:=by
 unfold Mn at h;simp only[aX,Gd]at h;refine⟨?_,h.2.2.1,a_⟩;unfold Cl;rw[aH a_];have:=(Qu h.1).z0;exact Int.ediv_nonneg a_ a_
theorem zX {S:Mi}(w:T.Wf){z:Int}(g:T.g=S.g)(b:T.bad=S.bad)(a:0<=Cl S.g z)(hb:¬S.bad z.toNat=1):jK (T.Av z).1.bad (S.g.D*S.g.Z).toNat<jK S.bad (S.g.D*S.g.Z).toNat:=by
 have:=zY w (z:=z) (by rw[g];exact a) (by rw[b];exact hb);rw[b,g]at this;exact this
theorem Mi.Wf.Ho(w:B.1.Wf):(Mi.Ho B).Wf:=by
 unfold Mi.Ho;split
 ·exact w.iY
 ·exact w
def Aom(e:En)(ep:Int)(x:Me):Tv:=fun w o s=>o=x.off.toNat/\((w=x.Ai/\s=lJ e x.Ai x.Bj x.off ep x.seq)\/(w=x.Bj/\s=lJ e x.Bj x.Ai x.off ep x.seq))
def orR(R R':Tv):Tv:=fun w o s=>R w o s\/R' w o s
theorem zZ {g:Gm}(s:Sm g){z:Int}(h:0<=Cl g z):0<=z/\z<=511:=by
 have h1:=s.d1;have h2:=s.z1;have f:=s.d0;have h4:=s.z0;obtain⟨o,p⟩:=Nz (a:=g.D) (b:=g.Z) (A:=8) (B:=64);rcases Z6 s z with y|⟨_,_,_,u,C⟩<;>omega
structure Avk(g:Gm)(ep:Int)(x:Me)(e:En):Prop where
 st:x.state=1
 me:meB g x=true
 we:e.Wf
 ok:EOk e ep x.seq
 sm:x.sum=(E5 e.bytes:Nat)
theorem Avk.at {g:Gm}{x:Me}{e:En}(a:Avk g ep x e):(C8 { e with Bj:=x.Bj } x.Ai x.off ep x.seq).2=0/\(C8 { e with Bj:=x.Ai } x.Bj x.off ep x.seq).2=0/\0<=x.off/\¬Cl g x.Ai=Cl g x.Bj/\0<=Cl g x.Ai/\0<=Cl g x.Bj:=by
 obtain⟨h1,h2,hd,_⟩:=UX a.me;obtain⟨d1,o0,o1⟩:=zW h1;obtain⟨d2,_,_⟩:=zW h2;have s:Sm g:=Qu (by unfold Mn at h1;simp only[aX]at h1;exact h1.1);have:=s.s1;have f:=zZ s d1;have o:=zZ s d2;exact⟨a.ok.at f.1 a_ o.1 a_ o0 a_,a.ok.at o.1 a_ f.1 a_ o0 a_,o0,hd,d1,d2⟩
theorem UY {e:En}(we:e.Wf){z off:Int}(o:(C8 { e with Bj:=mt } z off ep sq).2=0){p:List EV}(P:Aq4 p):¬(hD (jW (Sa (lJ e z mt off ep sq) p)) z off).2=0:=by
 obtain⟨l,u,ul,rfl,C⟩:=P;unfold lJ;have w':({ e with Bj:=mt }:En).Wf:=⟨we.len,we.u8⟩;obtain⟨f1,f2,_⟩:=vv w' o;have a:=sg w' z off ep sq;have E:=z5 (by rw[f1]at a;exact a) f2;have hd:(Um (Ls (C8 { e with Bj:=mt } z off ep sq).1)).2=0:=by
  rw[f1];have:=congrArg Prod.snd E;unfold hD at this;split at this
  next y=>exact absurd this y
  next y=>exact dK y
 generalize (C8 { e with Bj:=mt } z off ep sq).1=f at a hd;have G:Sa (Be (Ls f)) (Be l)=Be (List.zipWith Nat.xor (Ls f) l):=by
  unfold Sa Be;rw[List.zipWith_map,List.map_zipWith];rfl
 rw[G,sj];have J:jJ (Ls f)=true:=by
  cases h:jJ (Ls f)with
  | true=>rfl
  | false=>
   unfold Um at hd;rw[aK h]at hd;cases hd
 have O:∀b∈Ls f,b<256:=fun b hb=>by
  unfold Ls at hb;rcases bH.1 hb with y|y
  ·exact vw a b y
  ·exact Yf _ _ b y
 have sh:=UG (oD a) u O ul J C;unfold hD;have hd:(Um (List.zipWith Nat.xor (Ls f) l)).2=11:=by unfold Um;rw[aK sh]
 rw[aK (by rw[hd];decide),hd];decide
section
variable{R:Tv}{S:Mi}
theorem MI.iY(m:MI fz Q R S)(h:S.u<S.g.S):MI fz Q R S.iY:=by
 have s1:=m.w.sm.s1;have u:=m.ub;have e:S.iY.u=S.u+1:=Cn;exact⟨m.d,⟨m.w.sm,m.w.ps⟩,m.nd,m.Ed,m.opn,m.rq,fun a w o s r h=>by have:=m.ro a w o s r h;rw[e];omega,by rw[e];show 0<=S.u+1/\S.u+1<=S.g.S;omega⟩
theorem MI.both(m:MI fz Q R S)(C:¬S.a = -1)(hu:S.u<S.g.S)(e:En)(ep sq:Int):
 MI fz Q R (S.both e ep sq).1/\¬(S.both e ep sq).2.2=34/\((S.both e ep sq).2.2=0->MI fz Q (orR R (Aom e ep ⟨1,S.a,S.b,S.u,sq,(E5 e.bytes:Nat)⟩)) (S.both e ep sq).1.iY):=by
 have p1:=m.put C (z:=S.a) (mt:=S.b) (.inl rfl) hu e ep sq;obtain⟨g1,b1,a1,c1,U,s1⟩:=sk S e S.a S.b ep sq;have p2:=p1.1.put (by rw[a1];exact C) (z:=S.b) (mt:=S.a) (.inr c1.symm) (by rw[U,g1];exact hu) e ep sq;have g:=vz S e ep sq;unfold Mi.both at g⊢;split
 next h=>
  exact⟨p1.1,p1.2.1,fun y=>absurd y h⟩
 next h=>
  have h:=eE.1 h;rw[aH (fun y=>y h)]at g;refine⟨p2.1,p2.2.1,fun h2=>?_⟩;have d1:=p1.2.2 h;have d2:DI fz (orR R (Aom e ep ⟨1,S.a,S.b,S.u,sq,(E5 e.bytes:Nat)⟩)) ((S.put e S.a S.b ep sq).1.put e S.b S.a ep sq).1.dr:=by
   have:=MI.put (fz:=fz) (Q:=Q) (R:=R) (S:=S) m C (.inl rfl) hu e ep sq (mt:=S.b);unfold Mi.put at h2;have dd:∀T:Mi,T.u=S.u->DI fz (fun w o s=>R w o s\/(w=S.a/\o=S.u.toNat/\s=lJ e S.a S.b S.u ep sq)) T.dr->(T.put e S.b S.a ep sq).2=0->DI fz (orR R (Aom e ep ⟨1,S.a,S.b,S.u,sq,(E5 e.bytes:Nat)⟩)) (T.put e S.b S.a ep sq).1.dr:=fun T W d h=>by
    unfold Mi.put at h⊢;split at h
    next y=>exact absurd h y
    next y=>
     rw[aH y];have h:(if _ then _ else _)=(0:Int):=h;split at h
     ·cases h
     next h1=>
      have a:=d.append S.b (Be (Ls (C8 { e with Bj:=S.a } S.b T.u ep sq).1));have e1:(T.dr.append S.b (Be (Ls (C8 { e with Bj:=S.a } S.b T.u ep sq).1))).2.1=T.u:=eE.1 fun y=>h1 ⟨h,y⟩
      have b:=(a.2.2 h).2;rw[e1]at b;refine b.sub fun w o s r=>?_
      rcases r with r|⟨X,E⟩
      ·exact .inl (.inl r)
      ·rcases E with⟨E,G⟩|⟨E,G⟩
       ·exact .inl (.inr ⟨E,X,G⟩)
       ·exact .inr ⟨E,by rw[W];exact X,by rw[G,W];rfl⟩
   exact dd _ U d1 h2
  have f:=p2.1;simp only at g;obtain⟨gg,gb,J,O,Y,gp,_⟩:=g;simp only;generalize ((S.put e S.a S.b ep sq).1.put e S.b S.a ep sq).1=V at d2 f gg gb J O Y gp⊢;have o:=m.opn C;have sS:=m.w.sm.s1;have ub:=m.ub;have ev:V.iY.u=S.u+1:=by
   show Cr .i64 (V.u+1)=_;rw[Y];exact Cn
  refine⟨d2,⟨f.w.sm,f.w.ps⟩,f.nd,fun d hd z hz=>?_,f.opn,fun w o' s r=>?_,fun _ w o' s r h=>?_,by rw[ev];show 0<=S.u+1/\S.u+1<=V.g.S;rw[gg];omega⟩
  ·have p:=f.Ed d hd z hz
   refine⟨fun o' s r=>?_,p.2⟩;rcases r with r|⟨_,r|r⟩
   ·exact p.1 o' s r
   ·exact p.2.2.1 (by rw[J];exact r.1)
   ·exact p.2.2.2 (by rw[O];exact r.1)
  ·show ¬Q w/\0<=Cl V.g w
   rw[gg];rcases r with r|⟨_,r|r⟩
   ·exact m.rq w o' s r
   ·rw[r.1];exact⟨o.1.1,o.2.1.1⟩
   ·rw[r.1];exact⟨o.1.2,o.2.1.2⟩
  ·rw[ev]
   have h:w=V.a\/w=V.b:=h;rcases r with r|⟨r,_⟩
   ·have:=m.ro C w o' s r (by rw[<-J,<-O];exact h)
    omega
   ·have r:o'=S.u.toNat:=r
    omega
structure z6(fz:Fz)(Q:Int->Prop)(R:Tv)(S:Mi)(e:En)(ep sq:Int)(P:Mi × Me × Int):Prop where
 m:MI fz Q R P.1
 w:P.1.Wf
 n:¬P.2.2=34
 ok:P.2.2=0->MI fz Q (orR R (Aom e ep P.2.1)) P.1/\P.2.1.state=1/\P.2.1.seq=sq/\P.2.1.sum=(E5 e.bytes:Nat)/\Mn S.g P.2.1.Ai P.2.1.off=true/\Mn S.g P.2.1.Bj P.2.1.off=true/\¬Cl S.g P.2.1.Ai=Cl S.g P.2.1.Bj
theorem MI.Lk(hr:rtB S.g=true)(e:En)(ep sq:Int):∀(n:Nat) (T:Mi),T.g=S.g->T.Wf->jK T.bad (T.g.D*T.g.Z).toNat<n->MI fz Q R T->z6 fz Q R S e ep sq (Mi.Lk e ep sq n T)
 | 0,T,_,_,V,_=>absurd V (cJ _)
 | n+1,T,g,w,V,m=>by
  have r:=m.ready;have rg:=vA T;have w1:=w.ready;unfold Mi.Lk;split
  next h=>
   exact⟨r.1,w1,r.2.1,fun y=>absurd y h⟩
  rename_i h;obtain⟨O,f⟩:=r.2.2 (eE.1 h);have f:T.ready.1.u<T.ready.1.g.S:=by rw[rg.1];exact f
  have b:=r.1.both O f e ep sq;obtain⟨gg,W,E,U,G,gp,Y⟩:=vz T.ready.1 e ep sq;have wb:=w1.both e ep sq;have o:=r.1.opn O;have u0:=r.1.ub.1;have C:T.ready.1.g=S.g:=rg.1.trans g;split
  next h0=>
   refine⟨b.1.iY (by rw[G,gg];exact f),wb.iY,by show ¬(0:Int)=34;decide,fun _=>⟨?_,rfl,rfl,rfl,?_,?_,?_⟩⟩
   ·have:=b.2.2 h0
    rw[<-E,<-U,<-G]at this;exact this
   ·show Mn S.g (T.ready.1.both e ep sq).1.a (T.ready.1.both e ep sq).1.u=true
    rw[E,G,<-C];exact z7 (by rw[C];exact hr) o.2.1.1 u0 f
   ·show Mn S.g (T.ready.1.both e ep sq).1.b (T.ready.1.both e ep sq).1.u=true
    rw[U,G,<-C];exact z7 (by rw[C];exact hr) o.2.1.2 u0 f
   ·show ¬Cl S.g (T.ready.1.both e ep sq).1.a=Cl S.g (T.ready.1.both e ep sq).1.b
    rw[E,U,<-C];exact o.2.2
  ·split
   next p=>exact absurd p b.2.1
   ·have mn:MI fz Q R (Mi.Ho (T.ready.1.both e ep sq)):=by
     unfold Mi.Ho;split
     ·exact b.1.iY (by rw[G,gg];exact f)
     ·exact b.1
    have J:(Mi.Ho (T.ready.1.both e ep sq)).a=T.ready.1.a/\(Mi.Ho (T.ready.1.both e ep sq)).g=T.ready.1.g/\(Mi.Ho (T.ready.1.both e ep sq)).bad=T.ready.1.bad:=by
     unfold Mi.Ho;split
     ·exact⟨E,gg,W⟩
     ·exact⟨E,gg,W⟩
    have q:=mn.Av (fun y=>absurd (J.1.symm.trans y) O) (T.ready.1.both e ep sq).2.1;split
    next p=>exact absurd p q.2
    ·have wn:=wb.Ho (B:=T.ready.1.both e ep sq)
     have bad:0<=Cl T.ready.1.g (T.ready.1.both e ep sq).2.1/\¬T.ready.1.bad (T.ready.1.both e ep sq).2.1.toNat=1:=by
      rcases w1.op with y|⟨y1,y2⟩
      ·exact absurd y.1 O
      ·rcases Y with z|z<;>rw[z]
       ·exact y1
       ·exact y2
     have less:=zX wn (z:=(T.ready.1.both e ep sq).2.1) (S:=T.ready.1) J.2.1 J.2.2 bad.1 bad.2;have X:=vB (Mi.Ho (T.ready.1.both e ep sq)) (T.ready.1.both e ep sq).2.1;refine MI.Lk hr e ep sq n _ (X.trans (J.2.1.trans C)) (wn.Av _) ?_ q.1;rw[X,J.2.1];rw[rg.1,rg.2]at less;rw[rg.1];omega
theorem MI.place(m:MI fz Q R S)(w:S.Wf)(hr:rtB S.g=true)(e:En)(ep sq:Int):z6 fz Q R S e ep sq (S.place e ep sq)/\((S.place e ep sq).2.2=0\/(S.place e ep sq).2.2=40->EOk e ep sq):=by
 unfold Mi.place;split
 next h=>
  refine⟨⟨m,w,?_,fun y=>absurd y h⟩,fun y=>?_⟩
  ·show ¬(C8 e 0 0 ep sq).2=34
   unfold C8;split<;>simp
  ·exfalso
   have y:(C8 e 0 0 ep sq).2=0\/(C8 e 0 0 ep sq).2=40:=y;unfold C8 at y h;split at y
   next c=>rw[aK c]at h;exact h rfl
   ·simp at y
 next h=>
  have f:=vC S.bad (S.g.D*S.g.Z).toNat;have s:=w.sm;have:=s.d0;have:=s.d1;have:=s.z0;have:=s.z1;obtain⟨o,p⟩:=Nz (a:=S.g.D) (b:=S.g.Z) (A:=8) (B:=64);exact⟨MI.Lk hr e ep sq 1000 S rfl w a_ m,fun _=>dK h⟩
theorem MI.copy(m:MI fz Q R S)(hb:S.a = -1->S.b = -1){x:Me}{e:En}{z:Int}(we:e.Wf)(o:(C8 { e with Bj:=mt } z x.off ep x.seq).2=0)(E:¬e.kind=2)(sm:x.sum=(E5 e.bytes:Nat))(o0:0<=x.off)(r:R z x.off.toNat (lJ e z mt x.off ep x.seq)):
 (MI fz Q R (S.Cw x z mt).1/\((S.Cw x z mt).1.a = -1->(S.Cw x z mt).1.b = -1))/\(S.Cw x z mt).2.2.2=0/\((S.Cw x z mt).2.2.1=true->(S.Cw x z mt).2.1=e.bytes)/\(¬fz.z z->(S.Cw x z mt).2.2.1=true):=by
 have b:=m.d.begin z;obtain⟨u,c⟩:=b.rc _ _ _ r;have be:(S.dr.begin z).dv.D8 z=0:=by unfold Dv.D8;rw[b.up,u];rfl
 have rd:(S.dr.read z x.off).2=Ym ((S.dr.begin z).dv.zs z.toNat) x.off:=by
  show Dv.read _ _ _=_;unfold Dv.read;rw[aH (fun y=>y be)]
 have C:=m.drv (m.d.read z x.off).1;obtain⟨s',hs,G⟩:∃s',((S.dr.begin z).dv.zs z.toNat).l[x.off.toNat]? = some s'/\(s'=lJ e z mt x.off ep x.seq\/fz.z z/\¬(hD (jW s') z x.off).2=0):=by
  rcases c with c|⟨f,_,p,sp,c,_⟩
  ·exact⟨_,c,.inl rfl⟩
  ·exact⟨_,c,.inr ⟨f,UY we o sp⟩⟩
 have J:=(aZ.1 hs).1;unfold Mi.Cw;rw[rd];by_cases h4:((S.dr.begin z).dv.zs z.toNat).st=4
 ·rw[show Ym ((S.dr.begin z).dv.zs z.toNat) x.off=(Sf,32)from aK h4]
  have f:fz.z z:=dK fun y=>by have:=(b.st z u).2 y;omega
  have q:=C.Av hb z;rw[aH (show ¬((Sf,(32:Int)):List EV × Int).2=0 from c_),aH (show ¬((Sf,(32:Int)):List EV × Int).2=34 from c_),aK rfl];have O:∀T:Mi,(T.a = -1->T.b = -1)->(T.Av z).1.a = -1->(T.Av z).1.b = -1:=fun T h=>by
   unfold Mi.Av;split
   ·exact h
   ·split
    ·exact h
    ·split
     ·exact h
     ·exact fun _=>(sr _).2.2.1
  exact⟨⟨q.1,O _ hb⟩,aH q.2,fun y=>(by cases y),fun y=>absurd f y⟩
 ·rw[show Ym ((S.dr.begin z).dv.zs z.toNat) x.off=(s',0) by unfold Ym;rw[aH h4,aK ⟨o0,a_⟩,hs];rfl]
  simp only[bN];refine⟨⟨C,hb⟩,trivial,?_⟩;rcases G with rfl|⟨f,bad⟩
  ·have g:=UZ we o (x:=x) rfl
   rw[aK ⟨E,rfl,sm.symm⟩]at g;unfold lJ;rw[sj,g];exact⟨fun _=>rfl,fun _=>rfl⟩
  ·have g:km (jW s') x z mt=(false,Di):=by unfold km;rw[aH (fun y=>bad y.1)]
   rw[g];exact⟨fun y=>(by cases y),fun y=>absurd f y⟩
theorem MI.Uw(m:MI fz Q R S)(hb:S.a = -1->S.b = -1){x:Me}{e:En}(a:Avk S.g ep x e)(f:¬e.kind=2)(u:¬(fz.z x.Ai/\fz.z x.Bj))(r:∀w o s,Aom e ep x w o s->R w o s):
 (∃T,S.read x=(T,e.bytes,0)/\MI fz Q R T)/\∃T n,S.check x=(T,e.bytes,n,0)/\MI fz Q R T:=by
 obtain⟨f1,f2,o0,hd,d1,d2⟩:=a.at;obtain⟨c1,e1,t1,n1⟩:=m.copy hb (z:=x.Ai) (mt:=x.Bj) a.we f1 f a.sm o0 (r _ _ _ ⟨rfl,.inl ⟨rfl,rfl⟩⟩);obtain⟨c2,e2,t2,C⟩:=c1.1.copy c1.2 (z:=x.Bj) (mt:=x.Ai) a.we f2 f a.sm o0 (r _ _ _ ⟨rfl,.inr ⟨rfl,rfl⟩⟩);have p:mj S.g x=true:=by unfold mj;rw[aR a.st,a.me];rfl
 have one:(S.Cw x x.Ai x.Bj).2.2.1=true\/((S.Cw x x.Ai x.Bj).1.Cw x x.Bj x.Ai).2.2.1=true:=by
  rcases Classical.em (fz.z x.Ai)with y|y
  ·exact .inr (C fun z=>u ⟨y,z⟩)
  ·exact .inl (n1 y)
 constructor
 ·unfold Mi.read
  rw[aH (by rw[p];simp)];by_cases h:(S.Cw x x.Ai x.Bj).2.2.1=true
  ·rw[aK (.inl h),t1 h,e1]
   exact⟨_,rfl,c1.1⟩
  ·rw[aH (by rw[e1];simpa using h)]
   have h2:=one.resolve_left h;rw[aK (.inl h2),t2 h2,e2];exact⟨_,rfl,c2.1⟩
 ·unfold Mi.check
  rw[aH (by rw[p];simp),aH (by rw[e1];simp)];unfold Mi.pW;rw[aH (by rw[e2];simp),aH (fun y=>by rcases one with z|z<;>simp[z]at y)];have E:(if((S.Cw x x.Ai x.Bj).1.Cw x x.Bj x.Ai).2.2.1=true then((S.Cw x x.Ai x.Bj).1.Cw x x.Bj x.Ai).2.1 else(S.Cw x x.Ai x.Bj).2.1)=e.bytes:=by
   split
   next h=>exact t2 h
   next h=>exact t1 (one.resolve_right h)
  rw[E];exact⟨_,_,rfl,c2.1⟩
end
end
structure Mk0(S T:Mi):Prop where
 g:T.g=S.g
 dr:Dk S.dr T.dr
theorem Mk0.refl(S:Mi):Mk0 S S:=⟨rfl,Dk.refl _⟩
theorem Mk0.trans {S U:Mi}(a:Mk0 S T)(b:Mk0 T U):Mk0 S U:=⟨b.g.trans a.g,a.dr.trans b.dr⟩
theorem z_(S:Mi)(z u:Int):Mk0 S (S.leave z u).1:=by
 refine⟨(sf S z u).1,?_⟩;unfold Mi.leave;split
 ·exact Dk.refl _
 ·split
  ·exact Dk.refl _
  ·exact zD _ _
theorem U'(S:Mi):Mk0 S S.close.1:=by
 unfold Mi.close;exact((⟨rfl,Dk.refl _⟩:Mk0 S { S with a:=-1,b:=-1,u:=0 }).trans (z_ _ _ _)).trans (z_ _ _ _)
theorem vD(S:Mi)(z:Int):Mk0 S (S.Av z).1:=by
 unfold Mi.Av;split
 ·exact Mk0.refl _
 ·split
  ·exact Mk0.refl _
  ·split
   ·exact⟨rfl,Dk.refl _⟩
   ·exact(⟨rfl,Dk.refl _⟩:Mk0 S (S.mark z)).trans (U' _)
theorem U_(S:Mi):Mk0 S S.ready.1:=by
 refine⟨(vA S).1,?_⟩;unfold Mi.ready;split
 ·exact Dk.refl _
 ·split
  ·exact rY _
  ·split<;>exact rY _
theorem vE(S:Mi)(e:En)(Ai Bj Ap seq:Int):Mk0 S (S.put e Ai Bj Ap seq).1:=by
 refine⟨(sk S e Ai Bj Ap seq).1,?_⟩;unfold Mi.put;split
 ·exact Dk.refl _
 ·exact zB _ _ _
theorem VA(S:Mi)(e:En)(Ap seq:Int):Mk0 S (S.both e Ap seq).1:=by
 unfold Mi.both;split
 ·exact vE _ _ _ _ _ _
 ·exact(vE _ _ _ _ _ _).trans (vE _ _ _ _ _ _)
theorem AA(S:Mi):Mk0 S S.iY:=⟨rfl,Dk.refl _⟩
theorem VB(B:Mi × Int × Int):Mk0 B.1 (Mi.Ho B):=by
 unfold Mi.Ho;split
 ·exact AA _
 ·exact Mk0.refl _
theorem AB(e:En)(Ap seq:Int):∀(n:Nat) (S:Mi),Mk0 S (Mi.Lk e Ap seq n S).1
 | 0,S=>Mk0.refl S
 | n+1,S=>by
  have a:=U_ S;have b:=a.trans (VA S.ready.1 e Ap seq);have c:=(b.trans (VB _)).trans (vD _ (S.ready.1.both e Ap seq).2.1);unfold Mi.Lk;split
  ·exact a
  ·split
   ·exact b.trans (AA _)
   ·split
    ·exact b
    ·split
     ·exact c
     ·exact c.trans (AB e Ap seq n _)
theorem AD(S:Mi)(e:En)(Ap seq:Int):Mk0 S (S.place e Ap seq).1:=by
 unfold Mi.place;split
 ·exact Mk0.refl _
 ·exact AB _ _ _ _ _
theorem VC(S:Jp)(i off:Int):Dk S (S.read i off).1:=(oF S i).trans (pR (S:=S.begin i) (zE _ i))
theorem ss {S:Mi}{D:Jp}(d:Dk S.dr D):Mk0 S { S with dr:=D }:=⟨rfl,d⟩
structure MW(fz:Fz)(Q:Int->Prop)(R:Tv)(S:Mi):Prop extends MI fz Q R S where
 wf:S.Wf
 rt:rtB S.g=true
theorem MW.ab{R:Tv}{S:Mi}(a:MW fz Q R S):S.a = -1->S.b = -1:=fun h=>by
 rcases a.wf.op with y|⟨y,_⟩
 ·exact y.2
 ·have:=lI a.wf.sm y.1;omega
theorem MW.dr{R:Tv}{S:Mi}(a:MW fz Q R S){D:Jp}(d:DI fz R D):MW fz Q R { S with dr:=D }:=⟨a.toMI.drv d,{ toWp:=⟨a.wf.sm,a.wf.ps⟩,op:=a.wf.op },a.rt⟩
theorem MW.Av{R:Tv}{S:Mi}(a:MW fz Q R S)(z:Int):MW fz Q R (S.Av z).1/\¬(S.Av z).2=34:=
 ⟨⟨(a.toMI.Av a.ab z).1,a.wf.Av z,by rw[vB];exact a.rt⟩,(a.toMI.Av a.ab z).2⟩
theorem MW.sub{R:Tv}{S:Mi}(a:MW fz Q R S)(h:∀w o s,R' w o s->R w o s):MW fz Q R' S:=⟨a.toMI.sub h,a.wf,a.rt⟩
structure Mk(S T:Mi):Prop extends Mk0 S T where
 iv:∀fz Q R,MW fz Q R S->MW fz Q R T
theorem Mk.refl(S:Mi):Mk S S:=⟨Mk0.refl S,fun _ _ _ a=>a⟩
theorem Mk.trans {S U:Mi}(a:Mk S T)(b:Mk T U):Mk S U:=⟨a.toMk0.trans b.toMk0,fun fz Q R m=>b.iv fz Q R (a.iv fz Q R m)⟩
theorem AE {S:Mi}{D:Jp}(d:Dk S.dr D)(i:∀fz R,DI fz R S.dr->DI fz R D):Mk S { S with dr:=D }:=⟨ss d,fun fz Q R m=>m.dr (i fz R m.d)⟩
theorem VD(S:Mi):Mk S { S with dr:=S.dr.flush.1 }:=AE (rY _) fun _ _ a=>a.flush.1
theorem AF(S:Mi)(z:Int):Mk S (S.Av z).1:=⟨vD S z,fun _ _ _ m=>(m.Av z).1⟩
theorem AG(S:Mi)(e:En)(Ap seq:Int):Mk S (S.place e Ap seq).1:=⟨AD S e Ap seq,fun fz Q R m=>by
 have p:=(m.toMI.place m.wf m.rt e Ap seq).1;exact⟨p.m,p.w,by rw[(AD S e Ap seq).g];exact m.rt⟩⟩
theorem oH(S:Mi)(x:Me)(Ai Bj:Int):Mk S (S.Cw x Ai Bj).1:=by
 have r:Mk S { S with dr:=(S.dr.read Ai x.off).1 }:=AE (VC _ _ _) fun _ _ a=>(a.read Ai x.off).1
 unfold Mi.Cw;split
 ·exact r
 ·split
  ·exact r
  ·split
   ·exact r.trans (AF _ _)
   ·exact r
theorem AH(S:Mi)(x:Me):Mk S (S.read x).1:=by
 unfold Mi.read;split
 ·exact Mk.refl _
 ·split
  ·exact oH _ _ _ _
  ·split<;>exact(oH _ _ _ _).trans (oH _ _ _ _)
theorem AJ(S:Mi)(x:Me):Mk S (S.check x).1:=by
 unfold Mi.check;split
 ·exact Mk.refl _
 ·split
  ·exact oH _ _ _ _
  ·have c:=(oH S x x.Ai x.Bj).trans (oH (S.Cw x x.Ai x.Bj).1 x x.Bj x.Ai)
   unfold Mi.pW;split
   ·exact c
   ·split<;>exact c
theorem pX:Vp Me.zero.Ai/\Vp Me.zero.Bj:=⟨⟨c_,c_⟩,⟨c_,c_⟩⟩
theorem AK(e:En)(Ap seq:Int):∀(n:Nat) (S:Mi),S.Wf->Vp (Mi.Lk e Ap seq n S).2.1.Ai/\Vp (Mi.Lk e Ap seq n S).2.1.Bj
 | 0,S,_=>pX
 | n+1,S,w=>by
  have w1:=w.ready.both e Ap seq;unfold Mi.Lk;split
  ·exact pX
  ·split
   ·exact w1.rng
   ·split
    ·exact pX
    ·split
     ·exact pX
     ·exact AK e Ap seq n _ (w1.Ho.Av _)
theorem VE {S:Mi}(w:S.Wf)(e:En)(Ap seq:Int):Vp (S.place e Ap seq).2.1.Ai/\Vp (S.place e Ap seq).2.1.Bj:=by
 unfold Mi.place;split
 ·exact pX
 ·exact AK _ _ _ _ _ w
theorem VF(S:Mi)(o:Int)(i:Nat):(ik S o i).2.g=S.g/\(ik S o i).2.dr=S.dr/\(ik S o i).2.bad=S.bad:=by
 unfold ik;split
 ·exact⟨rfl,rfl,rfl⟩
 ·split<;>exact⟨rfl,rfl,rfl⟩
theorem VG:TT.eqs 23=some [0,0,0,0,0,0]:=by kernel_rfl
theorem VH(a:Int):iN a a=true:=by rw[<-vF,pY];simp
theorem VI(g:Gm)(k:EV->R):K1 iK (bin TT .neq 23) (gV g) (gV g) k=k (.bool false):=by
 have h1:jI TT 23 (gV g) (gV g)=some true:=by
  unfold jI gV;rw[VG];simp only[gL,shaped,I];rw[show Nat.beq 0 0=true from rfl];simp only[Aj,Fk,jL,show Nat.beq (Ql .i64) (Ql .i64)=true from rfl,VH]
 show oB k (match jI TT 23 (gV g) (gV g)with|some b=>some (EV.bool (Bc b false true))|none=>none)=_;rw[h1];rfl
structure Aft(S:Mi)(cur By:Nat->Int):Prop where
 cur:∀i,i<3->cur i = -1\/Cl S.g (cur i)=i
 By:∀i,i<3->By i = -1\/Cl S.g (By i)=i
theorem Aft.ik {S:Mi}{By:Nat->Int}(a:Aft S cur By)(w:S.Wf)(hi:i<3):(ik S (By i) i).1 = -1\/Cl S.g (ik S (By i) i).1=i:=by
 have:=w.sm.d0;unfold Ev.ik;split
 ·exact a.By i hi
 ·split
  ·exact .inl rfl
  next z r e=>
   exact .inr (w.ps i a_ z (by rw[e];exact aQ ..)).1
theorem VJ {g:Gm}(s:Sm g){z:Int}(h:Cl g z=i):0<=z/\z<g.D*g.Z:=by
 rcases Z6 s z with y|⟨_,_,_,a,b⟩
 ·omega
 ·exact⟨a,b⟩
section
def Qa(cur By:Nat->Int)(z:Int):Prop:=0<=z/\∃i,i<3/\(z=cur i\/z=By i)
theorem MW.less{p:Int->Prop}{R:Tv}{S:Mi}(a:MW fz Q R S)(h:∀z,p z->Q z):MW fz p R S:=
 ⟨⟨a.d,a.w,a.nd,fun d hd z f=>⟨(a.Ed d hd z f).1,fun y=>(a.Ed d hd z f).2.1 (h z y),(a.Ed d hd z f).2.2⟩,fun y=>⟨⟨fun q=>(a.opn y).1.1 (h _ q),fun q=>(a.opn y).1.2 (h _ q)⟩,(a.opn y).2⟩,fun w o s r=>⟨fun q=>(a.rq w o s r).1 (h _ q),(a.rq w o s r).2⟩,a.ro,a.ub⟩,a.wf,a.rt⟩
theorem Qa.By {By:Nat->Int}{z:Int}(h:Qa cur (Jq By i (-1)) z):Qa cur By z:=by
 obtain⟨z0,j,hj,y⟩:=h;refine⟨z0,j,hj,y.imp id fun y=>?_⟩;unfold Jq at y;split at y
 ·omega
 ·exact y
theorem MW.ik{R:Tv}{S:Mi}{By:Nat->Int}(a:MW fz (Qa cur By) R S)(an:Aft S cur By)(hi:i<3):
 MW fz (fun z=>Qa cur (Jq By i (-1)) z\/(¬(Ev.ik S (By i) i).1 = -1/\z=(Ev.ik S (By i) i).1)) R (Ev.ik S (By i) i).2:=by
 have d0:=a.wf.sm.d0;unfold Ev.ik;split
 next h=>
  refine a.less fun z C=>?_
  rcases C with C|⟨_,C⟩
  ·exact C.By
  ·have C:z=By i:=C
   have y:=(an.By i hi).resolve_left h.1;exact⟨by rw[C];exact lI a.wf.sm,i,hi,.inr C⟩
 ·cases e:S.ps i with
  | nil=>exact a.less fun z C=>C.elim Qa.By fun y=>absurd rfl y.1
  | cons z r=>
   have hd:i<S.g.D.toNat:=a_
   have p:=a.Ed i hd z (by rw[e];exact aQ ..);have nd:=a.nd i hd;rw[e]at nd;have sub:∀d x,d<S.g.D.toNat->x∈upd S.ps i r d->x∈S.ps d/\¬x=z:=fun d x f u=>by
    simp only[upd]at u;split at u
    next y=>
     subst y;exact⟨by rw[e];exact aP _ u,fun y=>(cA.1 nd).1 (y▸u)⟩
    next y=>
     refine⟨u,fun w=>y ?_⟩;subst w;have h1:=(a.w.ps d f x u).1;have h2:=(a.w.ps i hd x (by rw[e];exact aQ ..)).1;omega
   refine⟨⟨a.d,⟨a.w.sm,fun d f x u=>a.w.ps d f x (sub d x f u).1⟩,fun d f=>?_,fun d f x u=>?_,fun y=>?_,fun w o s E=>?_,a.ro,a.ub⟩,{ toWp:=⟨a.wf.sm,fun d f x u=>a.wf.ps d f x (sub d x f u).1⟩,op:=a.wf.op },a.rt⟩
   ·show(upd S.ps i r d).Nodup
    simp only[upd];split
    ·exact(cA.1 nd).2
    ·exact a.nd d f
   ·have s:=sub d x f u
    have q:=a.Ed d f x s.1;exact⟨q.1,fun y=>y.elim (fun y=>q.2.1 y.By) fun y=>s.2 y.2,q.2.2⟩
   ·have o:=a.opn y
    exact⟨⟨fun y=>y.elim (fun y=>o.1.1 y.By) fun y=>p.2.2.1 y.2.symm,fun y=>y.elim (fun y=>o.1.2 y.By) fun y=>p.2.2.2 y.2.symm⟩,o.2⟩
   ·have q:=a.rq w o s E
    refine⟨fun y=>y.elim (fun y=>q.1 y.By) fun y=>?_,q.2⟩;have y:w=z:=y.2;subst y;exact p.1 o s E
structure iD(e:Int)(h h':Ab)(ar m:Nat)(S:Mi)(F:Nat->Prop)(cur By:Nat->Int)(S':Mi)(cur' old':Nat->Int):Prop where
 kk:Mk0 S S'
 an:Aft S' cur' old'
 M:C0 h' m S' F
 A:h'.get ar=some (.cells (arC m cur' old') 126)
 c:As (fun j=>¬F j\/j=ar) h h'
 hb:HB h'
 iv:∀fz R,MW fz (Qa cur By) R S->MW fz (Qa cur' old') R S'/\¬e=34
theorem iD.trans {e:Int}{f:Ab}{S U:Mi}{c2 o:Nat->Int}(a:iD e h1 h2 ar m S F c0 o0 T c1 o1)(b:iD e' h2 f ar m T F c1 o1 U c2 o):iD e' h1 f ar m S F c0 o0 U c2 o:=⟨a.kk.trans b.kk,b.an,b.M,b.A,a.c.trans b.c,b.hb,fun fz R m=>b.iv fz R (a.iv fz R m).1⟩
theorem iD.less {e:Int}{S:Mi}{F':Nat->Prop}(a:iD e h1 h2 ar m S F c0 o0 T c1 o1)(s:∀i,F' i->F i):iD e h1 h2 ar m S F' c0 o0 T c1 o1:=⟨a.kk,a.an,a.M.less s,a.A,a.c.mono fun i hi=>hi.imp (fun y w=>y (s i w)) id,a.hb,a.iv⟩
theorem iD.tell {e:Int}{S:Mi}(a:iD e h1 h2 ar m S F c0 o0 T c1 o1)(h:¬e'=34):iD e' h1 h2 ar m S F c0 o0 T c1 o1:=⟨a.kk,a.an,a.M,a.A,a.c,a.hb,fun fz R m=>⟨(a.iv fz R m).1,h⟩⟩
theorem Aft.of {S:Mi}{By:Nat->Int}(a:Aft S cur By)(g:T.g=S.g):Aft T cur By:=⟨by rw[g];exact a.cur,by rw[g];exact a.By⟩
theorem Aft.vG {S:Mi}{By:Nat->Int}(a:Aft S cur By){z:Int}(f:z = -1\/Cl S.g z=i):Aft S cur (Jq By i z):=⟨a.cur,fun j hj=>by
 unfold Jq;split
 next e=>subst e;exact f
 ·exact a.By j hj⟩
theorem Aft.setCur {S:Mi}{By:Nat->Int}(a:Aft S cur By){z:Int}(f:z = -1\/Cl S.g z=i):Aft S (Jq cur i z) By:=⟨fun j hj=>by
 unfold Jq;split
 next e=>subst e;exact f
 ·exact a.cur j hj,a.By⟩
theorem Aft.A5x {S:Mi}{By:Nat->Int}(a:Aft S cur By)(w:S.Wf)(hi:i<3)(h:¬(Ev.ik S (By i) i).1 = -1):Cl S.g (Ev.ik S (By i) i).1=i/\¬S.bad (Ev.ik S (By i) i).1.toNat=1:=by
 have:=w.sm.d0;have hd:=(a.ik w hi).resolve_left h;refine⟨hd,?_⟩;revert h hd;unfold Ev.ik;split
 next f=>
  intro h hd;exact vq f.2 (by show 0<=Cl S.g (By i);rw[hd];omega)
 ·split
  ·intro h;exact absurd rfl h
  next z r e=>
   intro _ _;exact(w.ps i a_ z (by rw[e];exact aQ ..)).2
section
variable (A:Cf disp)(hK:10000<K){ll:Nat}(fA:F ar)(fb:F b/\F ml/\F ll/\b≠ar/\ml≠ar/\ll≠ar){x z:Int}(hR:kA x y z es=true)(hi:i<3)
include A hK fA fb hR hi
theorem VK(hd:18<=d)(ft:F t)(ta:t≠ar):∀(n f:Nat) (h:Ab) (S:Mi) (cur By:Nat->Int),jK S.bad (S.g.D*S.g.Z).toNat<=n->n<f->C0 h m S F->HB h->h.get ar=some (.cells (arC m cur By) 126)->h.get t=some (.cells [I x,I y,I z,.ptr b 0] 58)->Qs h b ml ll S.g es->rtB S.g=true->0<S.dr.dv.size->Aft S cur By ->
 Ok (Kk (Ag TT disp K d false) (Ag TT disp K d true) K f (.ptr ar 0) (I i) (.ptr t 0) h) fun v h'=>∃(ok:Bool) (e:Int) (S':Mi) (cur' old':Nat->Int),v=.tuple [.bool ok,I e]/\iD e h h' ar m S F cur By S' cur' old':=by
 intro n;induction n using Nat.strongRecOn with
 | ind n ih=>
 intro f h S cur By hn hf M hb hA gt mp hr hs an;obtain⟨f,rfl⟩:=fc f;have sm:=M.wf.sm;have ro:Vp (By i):=by
  rcases an.By i hi with w|w
  ·rw[w];exact⟨a_,a_⟩
  ·exact oI sm
 rw[Kk];refine(UU (K:=K) hK M hb hA fA hi ro).Ao ?_;rintro _ h2 ⟨rfl,M2,U,c2,V⟩;obtain⟨E,td,tb⟩:=VF S (By i) i;have i2:∀fz R,MW fz (Qa cur By) R S->_:=fun fz R a=>a.ik an hi
 have A5x:=an.A5x M.wf hi;generalize ik S (By i) i=t' at M2 E td tb A5x i2⊢;obtain⟨p,T⟩:=t';simp only at M2 E td tb A5x i2⊢;have ae:Mk0 S T:=⟨E,by rw[td];exact Dk.refl _⟩;have O:Aft T cur (Jq By i (-1)):=(an.of E).vG (.inl rfl);have a2:iD 0 h h2 ar m S F cur By T cur (Jq By i (-1)):=⟨ae,O,M2,U,c2,V,fun fz R a=>⟨(i2 fz R a).less fun _=>.inl,c_⟩⟩;simp only[I,Ac];by_cases hm:p = -1
 ·subst hm
  simp only[aB,Aa];exact .ret ⟨_,_,_,_,_,rfl,a2⟩
 obtain⟨aw,ax⟩:=A5x hm;have W:Cl T.g p=i:=by rw[E];exact aw
 have hz:=VJ (g:=T.g) (by rw[E];exact sm) W;simp only[hm,aA,Aa,AL];have ay:=c2.at hb gt fun w=>w.elim (fun w=>w ft) ta
 rw[Cz ay rfl,Ak (n:=4) rfl]
 try simp only[Aa]
 have az:Qs h2 b ml ll T.g es:=by
  rw[E];exact mp.frame (c2.get _ (hb _ _ mp.map) fun w=>w.elim (fun w=>w fb.1) fb.2.2.2.1) (c2.get _ (hb _ _ mp.row) fun w=>w.elim (fun w=>w fb.2.1) fb.2.2.2.2.1) (c2.get _ (hb _ _ mp.live) fun w=>w.elim (fun w=>w fb.2.2.1) fb.2.2.2.2.2)
 have a1:rtB T.g=true:=by rw[E];exact hr
 have a6:0<T.dr.dv.size:=by rw[td];exact hs
 have fl:=UP (K:=K) A hK M2 V U fA a1 az hR hz.1 hz.2 (d:=d) a_ a6;simp only[I]at fl;refine fl.Ao ?_;rintro _ h3 ⟨e3,C,rfl,M3,c3,k3,G⟩;have u:=k3.at V U fA;have l3:=G _ _ u;have X:Mk0 S { T with dr:=C }:=ae.trans (ss c3.k);have i3:∀fz R,MW fz (Qa cur By) R S->MW fz (fun z=>Qa cur (Jq By i (-1)) z\/(¬p = -1/\z=p)) R { T with dr:=C }/\¬e3=34:=fun fz R a=>by
  have b:=i2 fz R a;have d:=c3.iv fz R (fun w o s r y=>(b.rq w o s r).1 (.inr ⟨hm,y⟩)) b.d;exact⟨b.dr d.1,d.2⟩
 have a7:As (fun j=>¬F j\/j=ar) h2 h3:=k3.mono fun j hj=>.inl hj
 have a3:iD 0 h h3 ar m S F cur By { T with dr:=C } cur (Jq By i (-1)):=⟨X,O.of rfl,M3,u,c2.trans a7,G,fun fz R a=>⟨(i3 fz R a).1.less fun _=>.inl,c_⟩⟩;have put:∀(c' o':Nat->Int),Aft T c' o'->(∀z,Qa c' o' z->Qa cur (Jq By i (-1)) z\/(¬p = -1/\z=p))->iD e3 h (h3.put ar (.cells (arC m c' o') 126)) ar m S F cur By { T with dr:=C } c' o':=fun c' o' ba hq=>
  ⟨X,ba.of rfl,M3.iC (T:=fun j=>j=ar) ((As.refl (S:=fun j=>j=ar) h3).Aq (.inl rfl) l3 _) fun j hj _=>hj▸fA,Ae _ _ _,a3.c.Aq (.inl (.inr rfl)) l3 _,G.put l3 _,fun fz R a=>⟨(i3 fz R a).1.less hq,(i3 fz R a).2⟩⟩
 simp only[Aa,I,Ac];by_cases h0:e3=0
 ·simp only[h0,aB,Aa]
  rw[kB hi]
  try simp only[Aa]
  rw[dA,Jg l3,Al u rfl (US hi)]
  try simp only[Aa,Au]
  rw[Ax (l:=[.int .i64 p,I (cur i)]) rfl]
  try simp only[Aa,Au]
  rw[kB hi]
  try simp only[Aa,Au]
  rw[J1];refine Ok.st (arC m (Jq cur i p) (Jq (Jq By i (-1)) i (cur i))) u rfl rfl (vp hi p (cur i)) ?_;refine .ret ⟨true,0,_,_,_,rfl,(put _ _ ((O.setCur (.inr W)).vG ((an.of E).cur i hi)) fun z hz=>?_).tell c_⟩;obtain⟨z0,j,hj,y⟩:=hz;unfold Jq at y;by_cases J:j=i
  ·rw[aK J,aK J]at y
   rcases y with y|y
   ·exact .inr ⟨hm,y⟩
   ·exact .inl ⟨z0,i,hi,.inl y⟩
  ·rw[aH J,aH J,aH J]at y
   exact .inl ⟨z0,j,hj,y.imp id fun y=>by show z=(if j=i then(-1)else By j);rw[aH J];exact y⟩
 simp only[h0,aA,Aa,Ac];by_cases Y:e3=34
 ·simp only[Y,aB,Aa]
  rw[kB hi]
  try simp only[Aa]
  refine Ok.gK u rfl rfl (by show _<7;omega) ?_;rw[show EV.int .i64 p=I p from rfl,zT hi];rw[Y]at put;refine .ret ⟨false,34,_,_,_,rfl,put _ _ (O.vG (.inr W)) fun z hz=>?_⟩;obtain⟨z0,j,hj,y⟩:=hz;by_cases J:j=i
  ·rcases y with y|y
   ·exact .inl ⟨z0,j,hj,.inl y⟩
   ·unfold Jq at y
    rw[aK J]at y;exact .inr ⟨hm,y⟩
  ·refine .inl ⟨z0,j,hj,y.imp id fun y=>?_⟩
   unfold Jq at y;rw[aH J,aH J]at y;show z=(if j=i then(-1)else By j);rw[aH J];exact y
 simp only[Y,aA,Aa,AM];rw[Al u rfl (v:=.ptr m 0) rfl];have rz:Vp p:=oI sm;have q:=Wx A hK M3 G (d:=d) a_ rz;simp only[I]at q;refine q.Ao ?_;rintro _ h4 ⟨rfl,M4,k4,ai⟩;have aa:=vD { T with dr:=C } p;have i4:∀fz R,MW fz (Qa cur By) R S->MW fz (Qa cur (Jq By i (-1))) R (Mi.Av { T with dr:=C } p).1/\¬(Mi.Av { T with dr:=C } p).2=34:=fun fz R a=>by
  have q:=(i3 fz R a).1.Av p;exact⟨q.1.less fun _=>.inl,q.2⟩
 have aj:=k4.at G u fA;have bb:As (fun j=>¬F j\/j=ar) h3 h4:=k4.mono fun j hj=>.inl hj
 have a4:iD (Mi.Av { T with dr:=C } p).2 h h4 ar m S F cur By (Mi.Av { T with dr:=C } p).1 cur (Jq By i (-1)):=⟨X.trans aa,a3.an.of aa.g,M4,aj,a3.c.trans bb,ai,i4⟩;simp only[Ac];by_cases hq:(Mi.Av { T with dr:=C } p).2=34
 ·simp only[hq,aB,Aa]
  rw[hq]at a4;exact .ret ⟨_,_,_,_,_,rfl,a4⟩
 simp only[hq,aA,Aa];have gS:(Mi.Av { T with dr:=C } p).1.g=S.g:=aa.g.trans E;have less:=zX M3.wf (z:=p) (S:=S) E tb a_ ax;have bj:=a4.c.at hb gt fun w=>w.elim (fun w=>w ft) ta
 have bk:Qs h4 b ml ll (Mi.Av { T with dr:=C } p).1.g es:=by
  rw[gS];exact mp.frame (a4.c.get _ (hb _ _ mp.map) fun w=>w.elim (fun w=>w fb.1) fb.2.2.2.1) (a4.c.get _ (hb _ _ mp.row) fun w=>w.elim (fun w=>w fb.2.1) fb.2.2.2.2.1) (a4.c.get _ (hb _ _ mp.live) fun w=>w.elim (fun w=>w fb.2.2.1) fb.2.2.2.2.2)
 refine(ih (jK (Mi.Av { T with dr:=C } p).1.bad (S.g.D*S.g.Z).toNat) a_ f h4 _ _ _ (by rw[gS];exact aD _) a_ M4 ai aj bj bk (by rw[gS];exact hr) (by rw[a4.kk.dr.size];exact hs) a4.an).mono ?_;rintro _ h5 ⟨ok,e,S',cur',old',rfl,a5⟩;exact⟨ok,e,S',cur',old',rfl,a4.trans a5⟩
theorem VL(hd:19<=d){S:Mi}{By:Nat->Int}(M:C0 h m S F)(hb:HB h)(hA:h.get ar=some (.cells (arC m cur By) 126))(mp:Qs h b ml ll S.g es)(hr:rtB S.g=true)(hs:0<S.dr.dv.size)(an:Aft S cur By):
 Ok (Ag TT disp K d false 95 [.ptr ar 0,I i,.agg [I x,I y,I z,.ptr b 0]] h) fun v h'=>∃(ok:Bool) (e:Int) (S':Mi) (cur' old':Nat->Int),v=.tuple [.bool ok,I e]/\iD e h h' ar m S F cur By S' cur' old':=by
 obtain⟨e,rfl⟩:=fc d;have sm:=M.wf.sm;rw[VM A a_];simp only[AN,Aa];obtain⟨h1,C,f,E,G⟩:=nW h (.cells [I x,I y,I z,.ptr b 0] 58);rw[C];have p:=f.hb hb;have O:=hb _ _ hA;have J:C0 h1 m S (fun j=>F j\/j=h.next):=(M.ext hb f).less fun j hj=>by
  rcases hj with hj|hj
  ·exact .inl hj
  ·exact .inr ⟨a_,a_⟩
 have u:=mp.frame (f.get _ (hb _ _ mp.map) id) (f.get _ (hb _ _ mp.row) id) (f.get _ (hb _ _ mp.live) id);have U:=vC S.bad (S.g.D*S.g.Z).toNat;have:=sm.d0;have:=sm.d1;have:=sm.z0;have:=sm.z1;obtain⟨V,W⟩:=Nz (a:=S.g.D) (b:=S.g.Z) (A:=8) (B:=64);refine(VK (K:=K) (F:=fun j=>F j\/j=h.next) A hK (.inl fA) ⟨.inl fb.1,.inl fb.2.1,.inl fb.2.2.1,fb.2.2.2⟩ hR hi (d:=e) a_ (t:=h.next) (.inr rfl) a_ _ K h1 S cur By (aD _) a_ J p (f.at hb hA) E u hr hs an).mono ?_;rintro _ h2 ⟨ok,e,S',cur',old',rfl,a⟩;have o:=a.less (F':=F) fun i=>.inl
 exact⟨ok,e,S',cur',old',rfl,⟨o.kk,o.an,o.M,o.A,(Ext.to f).trans o.c,o.hb,o.iv⟩⟩
end
end
section
variable (A:Cf disp)(hK:10000<K){ll:Nat}(fA:F ar)(fb:F b/\F ml/\F ll/\b≠ar/\ml≠ar/\ll≠ar){x z:Int}
include A hK fA fb
theorem VN(hd:19<=d)(hR:kA x y z es=true)(Y:F t)(ta:t≠ar):∀(f i n:Nat) (h:Ab) (S:Mi) (cur By:Nat->Int),3-i<f->i<=3->n<=i->C0 h m S F->HB h->h.get ar=some (.cells (arC m cur By) 126)->h.get t=some (.cells [I x,I y,I z,.ptr b 0] 58)->Qs h b ml ll S.g es->rtB S.g=true->0<S.dr.dv.size->Aft S cur By ->
 Ok (Ic (Ag TT disp K d false) (Ag TT disp K d true) K f (.ptr ar 0) (.ptr t 0) (I n) (I i) h) fun v h'=>∃(p e:Int) (S':Mi) (cur' old':Nat->Int),v=.tuple [I p,I e]/\iD e h h' ar m S F cur By S' cur' old':=by
 intro f;induction f with
 | zero=>intro i n h S cur By hf;omega
 | succ f ih=>
  intro i n h S cur By hf hi hn M hb hA gt mp hr hs an;rw[Ic];simp only[I,Ac];by_cases J:i<3
  ·have:decide ((i:Int)<3)=true:=by simp;omega
   simp only[this,Aa,AO];rw[Cz gt rfl,Ak (n:=4) rfl];simp only[Aa];have u:=VL (K:=K) A hK fA fb hR J hd M hb hA mp hr hs an;simp only[I]at u;refine u.Ao ?_;rintro _ h2 ⟨ok,e,S2,C,E,rfl,o⟩;simp only[Aa,Ac];by_cases he:e=0
   ·simp only[he,aC,aA,Aa,AP]
    have O:Qs h2 b ml ll S2.g es:=by
     rw[o.kk.g];exact mp.frame (o.c.get _ (hb _ _ mp.map) fun w=>w.elim (fun w=>w fb.1) fb.2.2.2.1) (o.c.get _ (hb _ _ mp.row) fun w=>w.elim (fun w=>w fb.2.1) fb.2.2.2.2.1) (o.c.get _ (hb _ _ mp.live) fun w=>w.elim (fun w=>w fb.2.2.1) fb.2.2.2.2.2)
    have U:=o.c.at hb gt fun w=>w.elim (fun w=>w Y) ta
    have nx:∀p,p<=n+1->Ok (T9 (Ag TT disp K d false) (Ag TT disp K d true) K (Ic (Ag TT disp K d false) (Ag TT disp K d true) K f) (.ptr ar 0) (.ptr t 0) (I (p:Nat)) (.int .i64 (i:Int)) h2) fun v h'=>∃(p e:Int) (S':Mi) (cur' old':Nat->Int),v=.tuple [I p,I e]/\iD e h h' ar m S F cur By S' cur' old':=by
     intro p af;simp only[T9,Ac];rw[Cn,show((i:Nat):Int)+1=((i+1:Nat):Int) from a_];refine(ih (i+1) p h2 S2 C E a_ a_ a_ o.M o.hb o.A U O (by rw[o.kk.g];exact hr) (by rw[o.kk.dr.size];exact hs) o.an).mono ?_;rintro _ h3 ⟨n3,e3,S',cur',old',rfl,a3⟩;exact⟨n3,e3,S',cur',old',rfl,o.trans a3⟩
    cases ok with
    | true=>
     simp only[Aa,Ac];rw[Cn,show((n:Nat):Int)+1=((n+1:Nat):Int) from a_];exact nx (n+1) (aD _)
    | false=>
     simp only[Aa];exact nx n a_
   ·simp only[he,aG,aB,Aa]
    exact .ret ⟨0,e,_,_,_,rfl,o⟩
  ·have:i=3:=a_
   subst this;have:decide (((3:Nat):Int)<3)=false:=rfl;simp only[this,Aa,AQ];rw[Al hA rfl (v:=.ptr m 0) rfl];obtain⟨D,V,dr⟩:=ni A hK M hb;rw[dr.Da];refine(dr.flush (d:=d) a_).Ao ?_;rintro _ h2 ⟨rfl,M2,X,W⟩;have o:iD S.dr.flush.2 h h2 ar m S F cur By { S with dr:=S.dr.flush.1 } cur By:=⟨ss (rY _),an.of rfl,M2,X.at hb hA fA,X.mono fun j hj=>.inl hj,W,fun fz R a=>⟨a.dr a.d.flush.1,a.d.flush.2⟩⟩;generalize S.dr.flush.2=e at o⊢;simp only[I,Ac];by_cases he:e=0
   ·simp only[he,aC,aA,Aa,AS,Ac]
    by_cases G:(n:Int)<2
    ·simp only[G,aB,Aa]
     exact .ret ⟨_,40,_,_,_,rfl,o.tell c_⟩
    ·simp only[G,aA,Aa,AU]
     exact .ret ⟨_,0,_,_,_,rfl,o.tell c_⟩
   ·simp only[he,aG,aB,Aa]
    exact .ret ⟨0,e,_,_,_,rfl,o⟩
theorem VO(hd:20<=d){S:Mi}{By:Nat->Int}(M:C0 h m S F)(hb:HB h)(hA:h.get ar=some (.cells (arC m cur By) 126))(mp:Qs h b ml ll S.g es)(hr:rtB S.g=true)(hs:0<S.dr.dv.size)(an:Aft S cur By):
 Ok (Ag TT disp K d false 53 [.ptr ar 0,.agg [I x,I y,I z,.ptr b 0]] h) fun v h'=>∃(X e:Int) (S':Mi) (cur' old':Nat->Int),v=.tuple [I X,I e]/\iD e h h' ar m S F cur By S' cur' old':=by
 obtain⟨e,rfl⟩:=fc d;have s:=Qu hr;rw[VP A a_];simp only[AV,Aa];obtain⟨h1,e_,E,W,ai⟩:=nW h (.cells [I x,I y,I z,.ptr b 0] 58);rw[e_];have f:=E.hb hb;have l1:=f _ _ W;have la:=f _ _ (E.at hb hA);rw[Jg l1,Cz W rfl,Ak (n:=4) rfl]
 try simp only[Aa,Au]
 have u:=mp.frame (E.get _ (hb _ _ mp.map) id) (E.get _ (hb _ _ mp.row) id) (E.get _ (hb _ _ mp.live) id);refine Ok.bE ((y_ (K:=K) A (d:=e) a_ a_ s (u.frame (Bx _ _) (Bx _ _) (Bx _ _)) (Dj f) x y z)) (fun _ _ p=>p.2.1) ?_;rintro _ al h2 ⟨rfl,_⟩ _ C;have O:=C.hb f;have stop:∀h2,Ext h h2->iD 10 h h2 ar m S F cur By S cur By:=fun h2 x=>⟨Mk0.refl _,an,(M.ext hb x).less fun j (hj:F j)=>Or.inl hj,x.at hb hA,Ext.to x,x.hb hb,fun fz R a=>⟨a,c_⟩⟩
 cases hR:kA x y z es with
 | false=>
  simp only[Aa,Ac,Au,On];exact .ret ⟨0,10,_,_,_,rfl,stop _ (E.trans C)⟩
 | true=>
 have g2:=C.at f W;simp only[Aa,Ac,Au];rw[Jg l1,Al g2 rfl (v:=.ptr b 0) rfl]
 try simp only[Aa,Au]
 have Y:=u.frame (C.get _ (f _ _ u.map) id) (C.get _ (f _ _ u.row) id) (C.get _ (f _ _ u.live) id);refine Ok.bE ((rN (K:=K) (Y.frame (Bx _ _) (Bx _ _) (Bx _ _)) (Dj O)).mono fun _ _ a=>(⟨a.1,a.2.1⟩:_/\_)) (fun _ _ p=>p.2) ?_;rintro _ aq h3 ⟨rfl,_⟩ _ x3;have U:=x3.hb O;have G:Ext h h3:=(E.trans C).trans x3;have ad:=G.at hb hA
 try simp only[Aa,Au]
 rw[Jg la,Al ad rfl (v:=.ptr m 0) rfl]
 try simp only[Aa,Au]
 have M3:=(M.ext hb G).less fun j (hj:F j)=>Or.inl hj
 refine Ok.bE (O8 (K:=K) (M3.same (iO.lift _)) (Dj U)) (fun _ _ p=>p.2) ?_;rintro _ ax h4 ⟨rfl,_⟩ _ x4;have af:=x4.hb U
 try simp only[Aa,Au]
 rw[VI];simp only[On,Aa,AW];have o:Ext h h4:=G.trans x4;have V:Ext h1 h4:=(C.trans x3).trans x4;have M4:C0 h4 m S (fun j=>F j\/j=h.next):=(M.ext hb o).less fun j hj=>by
  rcases hj with hj|hj
  ·exact .inl hj
  ·have:=V.next
   exact .inr ⟨a_,a_⟩
 have lA:=hb _ _ hA;have ag:=mp.frame (o.get _ (hb _ _ mp.map) id) (o.get _ (hb _ _ mp.row) id) (o.get _ (hb _ _ mp.live) id);refine(VN (K:=K) (F:=fun j=>F j\/j=h.next) A hK (.inl fA) ⟨.inl fb.1,.inl fb.2.1,.inl fb.2.2.1,fb.2.2.2⟩ (d:=e) a_ hR (t:=h.next) (.inr rfl) a_ K 0 0 h4 S cur By a_ a_ a_ M4 af (o.at hb hA) (V.at f W) ag hr hs an).mono ?_;rintro _ h5 ⟨X,e',S',cur',old',rfl,a⟩;have J:=a.less (F':=F) fun i=>.inl
 exact⟨X,e',S',cur',old',rfl,⟨J.kk,J.an,J.M,J.A,(Ext.to o).trans J.c,J.hb,J.iv⟩⟩
end
theorem VQ(hi:i<3)(h:Ab):su K (I i) h=some (.bool true,h):=by
 simp only[su,AX,I,Ac];have e1:decide (0<=(i:Int))=true:=by simp
 have e2:decide ((i:Int)<3)=true:=by simp;omega
 simp only[e1,e2,Aa,Ac]
section
variable{S:Mi}{By:Nat->Int}(M:C0 h m S F)(hb:HB h)(hA:h.get ar=some (.cells (arC m cur By) 126))
include M hb hA
theorem AY{z:Int}(a:z = -1\/Cl S.g z=i):Ok (Qh K (.ptr ar 0) (I i) (I z) h) fun v h'=>v=.bool true/\Ext h h':=by
 simp only[Qh,I,Ac];have sm:=M.wf.sm;by_cases h1:z = -1
 ·simp only[h1,aB,Aa,Ac,U9]
  exact .ret ⟨rfl,As.refl _⟩
 ·simp only[h1,aA,Aa,Ac,U9]
  rw[Al hA rfl (v:=.ptr m 0) rfl];refine(O8 (K:=K) M hb).Ao ?_;rintro _ h2 ⟨rfl,f⟩;have hd:=a.resolve_left h1;refine(Hv (K:=K) sm z (oI sm) h2).Ao ?_;rintro _ p ⟨rfl,o⟩;simp only[I,Ac,hd,aB,Aa];exact .ret ⟨rfl,f.trans o⟩
theorem VR(fA:F ar)(hi:i<3){w:Int}(G:v = -1\/Cl S.g v=i)(hw:w = -1\/Cl S.g w=i)(J:¬v=w):Ok (Sw K (.ptr ar 0) (I i) (I v) (I w) h) fun r h'=>r=I 0/\C0 h' m S F/\h'.get ar=some (.cells (arC m (Jq cur i v) (Jq By i w)) 126)/\As (fun j=>j=ar) h h'/\HB h':=by
 simp only[Sw,VQ hi,Aa,Ac];refine(AY (K:=K) M hb hA G).Ao ?_;rintro _ h2 ⟨rfl,p⟩;have a:=p.hb hb;have M2:=(M.ext hb p).less fun j (hj:F j)=>Or.inl hj
 simp only[Aa,Ac,AZ];refine(AY (K:=K) M2 a (p.at hb hA) hw).Ao ?_;rintro _ u ⟨rfl,C⟩;have f:=C.hb a;have x:Ext h u:=p.trans C;have O:=(M.ext hb x).less fun j (hj:F j)=>Or.inl hj
 have o:=x.at hb hA;have E:=f _ _ o;simp only[Aa,Ac,A',I,J,aA,A_,Bd,BA,BB];rw[Ax (l:=[I v,I w]) rfl]
 try simp only[Aa]
 rw[kB hi];refine Ok.st (arC m (Jq cur i v) (Jq By i w)) o rfl rfl (vp hi v w) ?_;have c:As (fun j=>j=ar) u (u.put ar (.cells (arC m (Jq cur i v) (Jq By i w)) 126)):=(As.refl (S:=fun j=>j=ar) u).Aq (.inl rfl) E _;exact .ret ⟨rfl,O.iC c fun j hj _=>hj▸fA,Ae _ _ _,(Ext.to x).trans c,f.put E _⟩
end
end
end Go.Ev
