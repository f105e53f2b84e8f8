import Derived.Test.YtoihakbgidodkaaGreatYa
set_option linter.all false
namespace Go.Ev
noncomputable section
open Go.Proofs
set_option maxRecDepth 100000
variable {h h' h0 h1:Ab}{K P b d i j m n q t ar b2 ml sz:Nat}{g:Gm}{es:List Me}{xs:List EV}{kk:Ab->R}{Q:EV->Ab->Prop}{v y sq zn:Int}{D:Dv}{F:Nat->Prop}{S T:Mi}{k:EV->Ab->R}{e:TypeId}{Cn cur cur':Nat->Int}{out:List Nat}{tm:Ba}{L:List Fr}{q0:Prop}{B:Mi × Int × Int}{disp:Nat->Option FT}
instance:DecidableEq Me:=fun a b=>by
 cases a;cases b;simp only[Me.mk.injEq];exact inferInstance
def Me.nil(s:Int):Me:=⟨s,0,0,0,0,0⟩
def meR(g:Gm)(x:Me):Bool:=if x.state=0\/x.state=2 then decide (x=Me.nil x.state)else if x.state=1 then o9 g x else false
def iC(z:Int)(x:Me):Int:=if x.state=1/\(x.Am=z\/x.Bw=z)then 1 else 0
def W7(es:List Me)(z:Int):Int:=(es.map (iC z)).foldr (· + ·) 0
theorem o_(x:Me)(es:List Me)(z:Int):W7 (x::es) z=iC z x+W7 es z:=rfl
theorem zE(z:Int)(x:Me):0<=iC z x/\iC z x<=1:=by unfold iC;split<;>omega
theorem sP(z:Int):∀es:List Me,0<=W7 es z/\W7 es z<=es.length
 | []=>⟨Int.le_refl _,Int.le_refl _⟩
 | x::es=>by
  have:=sP z es;have:=zE z x;rw[o_,bP];omega
theorem zF(z:Int)(y:Me):∀(es:List Me) (j:Nat) (hj:j<es.length),W7 (es.set j y) z=W7 es z-iC z es[j]+iC z y
 | x::es,0,_=>by
  rw[List.set_cons_zero,o_,o_];show iC z y+W7 es z=iC z x+W7 es z-iC z x+iC z y;omega
 | x::es,j+1,hj=>by
  have a:j<es.length:=by simpa using hj
  rw[List.set_cons_succ,o_,o_,zF z y es j a];show _=iC z x+W7 es z-iC z es[j]+iC z y;omega
structure K7(h:Ab)(b ml ll:Nat)(g:Gm)(es:List Me):Prop where
 map:h.get b=some (.cells (gL g++[.slice ml 0 g.B.toNat g.B.toNat false,.slice ll 0 (g.D*g.Z).toNat (g.D*g.Z).toNat false]) 147)
 row:h.get ml=some (.cells (es.map Me.cells).flatten 87)
 live:h.get ll=some (.cells ((List.range (g.D*g.Z).toNat).map fun(z:Nat)=>I (W7 es z)) 3)
 len:es.length=g.B.toNat
 ok:∀x∈es,meR g x=true
theorem K7.frame{ll:Nat}(m:K7 h b ml ll g es)(e1:h'.get b=h.get b)(e2:h'.get ml=h.get ml)(e3:h'.get ll=h.get ll):K7 h' b ml ll g es:=⟨by rw[e1];exact m.map,by rw[e2];exact m.row,by rw[e3];exact m.live,m.len,m.ok⟩
theorem K7.ext{ll:Nat}(m:K7 h b ml ll g es)(e:∀i o,h.get i=some o->h'.get i=some o):K7 h' b ml ll g es:=⟨e _ _ m.map,e _ _ m.row,e _ _ m.live,m.len,m.ok⟩
theorem qu:∀(l:List (List EV)) (j:Nat) (x:List EV),(∀x∈l,x.length=n)->l[j]? = some x->Ke l.flatten (j*n) n=some x:=by
 have len:∀l:List (List EV),(∀x∈l,x.length=n)->l.flatten.length=l.length*n:=fun l=>by
  induction l with
  | nil=>intro _;simp
  | cons a r o=>intro h;rw[cJ,aE,h a (aW ..),o fun x f=>h x (aV _ f),bP,fJ];omega
 intro l j x p f;have hj:=(bA.1 f).1;rw[E4 (by rw[len l p];have:=Nat.mul_le_mul_right n (show j+1<=l.length from hj);rw[fJ]at this;exact this)];congr 1;induction l generalizing j with
 | nil=>cases f
 | cons a r o=>
  have u:=p a (aW ..);cases j with
  | zero=>
   rw[bR]at f;cases f;rw[fZ,dK,cJ,<-u,dQ]
  | succ j=>
   rw[cM]at f;rw[cJ,fJ,show j*n+n=a.length+j*n from a_,<-cK,dN];exact o j (fun x f=>p x (aV _ f)) f (bA.1 f).1
theorem sQ(es:List Me)(hj:j<es.length):Ke (es.map Me.cells).flatten (j*6) 6=some es[j].cells:=
 qu (n:=6) (es.map Me.cells) j es[j].cells (fun y a=>by obtain⟨z,_,rfl⟩:=b9.1 a;rfl) (by rw[aY,aF hj];rfl)
def h_(es:List Me)(j:Int):Me × Int:=if 0<=j/\j<es.length then((es[j.toNat]?).getD (Me.nil 0),0)else(Me.nil 0,13)
theorem Ok.vN{z:List EV}(f:h.get i=some (.cells z t))(o:z.length=n)(a:xs.length=n)(p:Ok (kk (h.put i (.cells xs t))) Q):Ok (Vz n (.ptr i 0) (.agg xs) h kk) Q:=
 Ok.st xs f rfl (by show Fw xs=n;rw[Be,a]) (Bl (by show z.length=xs.length;rw[a,o])) p
theorem pa{ll:Nat}(s:Sm g)(m:K7 h b ml ll g es)(hb:HB h)(j:Int):Ok (Lp K (.ptr b 0) (I j) h) fun v h'=>v=.tuple [.agg (h_ es j).1.cells,I (h_ es j).2]/\Ext h h':=by
 have:=s.b0;have:=s.b1;simp only[Lp,I,Aa,Ac];rw[show[EV.int .i64 0,.int .i64 0,.int .i64 0,.int .i64 0,.int .i64 0,.int .i64 0]=(Me.nil 0).cells from rfl];obtain⟨h1,E,a,g4,_⟩:=nW h (.cells (Me.nil 0).cells 87);rw[E];have f:=a.hb hb;have p:=a.at hb m.map;have G:=a.at hb m.row;have J:=f _ _ g4;have st:∀(x:Me) (e:Int),Ok (Vz 6 (.ptr h.next 0) (.agg x.cells) h1 fun o=>Gi TT [.c (.ptr h.next 0) 87,.v (.int .i64 e)] o) fun v h'=>v=.tuple [.agg x.cells,I e]/\Ext h h':=by
  intro x e;refine Ok.vN g4 rfl rfl ?_;rw[Du (Af _ _ _) kH.1 kH.2 rfl];exact .ret ⟨rfl,a.Ao (.inr (aD _)) J _⟩
 unfold h_;by_cases u:j<0
 ·have O:Fa (.tuple []) false=false/\Fa (.tuple []) true=false:=⟨rfl,rfl⟩
  simp only[u,aB,Aa,Ac,vO];rw[Ax (l:=(Me.nil 0).cells) rfl,aK a_];exact st _ 13
 simp only[u,aA,Aa,Ac];rw[Ak p rfl (v:=.slice ml 0 g.B.toNat g.B.toNat false) rfl];rw[show ∀k:EV->R,Fz (.slice ml 0 g.B.toNat g.B.toNat false) k=k (I g.B.toNat)from fun _=>rfl];simp only[I,Ac,Aa,vO];have hlen:=m.len;by_cases U:j<g.B
 ·obtain⟨n,rfl⟩:=bL (show 0<=j from a_)
  have C:n<es.length:=a_
  have:decide ((n:Int)≥(g.B.toNat:Int))=false:=by simp;omega
  simp only[this,Aa,zG];rw[Ak p rfl (v:=.slice ml 0 g.B.toNat g.B.toNat false) rfl,Md a_,bI,Cd G rfl (sQ es C),aN a_];rw[show(es[(n:Int).toNat]?).getD (Me.nil 0)=es[n] by rw[bJ,aF C];rfl];exact st _ 0
 ·have:decide ((j:Int)≥(g.B.toNat:Int))=true:=by simp;omega
  simp only[this,Aa];rw[Ax (l:=(Me.nil 0).cells) rfl,aK a_];exact st _ 13
def lP(g:Gm)(es:List Me)(z:Int):Int:=if 0<=z/\z<g.D*g.Z then W7 es z else 0
theorem vP(n:Nat)(f:Int->Int)(hj:j<n:=by omega):((List.range n).map fun(z:Nat)=>I (f z))[j]? = some (I (f j)):=by
 rw[aY,cL hj];rfl
theorem sR{ll:Nat}(m:K7 h b ml ll g es)(z:Int):Ls K (.ptr b 0) (I z) h=some (I (lP g es z),h):=by
 simp only[Ls,I,Aa,Ac];unfold lP;by_cases a:z<0
 ·simp only[a,aB,Aa,Ac,vQ]
  rw[aK a_]
 simp only[a,aA,Aa,Ac];rw[Ak m.map rfl (v:=.slice ll 0 (g.D*g.Z).toNat (g.D*g.Z).toNat false) rfl];rw[show ∀k:EV->R,Fz (.slice ll 0 (g.D*g.Z).toNat (g.D*g.Z).toNat false) k=k (I (g.D*g.Z).toNat)from fun _=>rfl];simp only[I,Ac,Aa,vQ];by_cases f:z<g.D*g.Z
 ·obtain⟨n,rfl⟩:=bL (show 0<=z from a_)
  have:decide ((n:Int)≥((g.D*g.Z).toNat:Int))=false:=by simp;omega
  simp only[this,Aa,zH];rw[Ak m.map rfl (v:=.slice ll 0 (g.D*g.Z).toNat (g.D*g.Z).toNat false) rfl,Md a_,bI,cD,Ak m.live rfl (vP (g.D*g.Z).toNat (W7 es) (j:=n)),aN a_]
 ·have:decide ((z:Int)≥((g.D*g.Z).toNat:Int))=true:=by simp;omega
  simp only[this,Aa];rw[aK a_]
theorem zI:∀(l l':List Int),l.length=l'.length->Ey (l.map I) (l'.map I)=some (decide (l=l'))
 | [],[],_=>rfl
 | a::l,b::l',h=>by
  have f:=zI l l' (by simpa using h);rw[cZ,cZ];unfold Ey;rw[qv];by_cases h1:a=b
  ·subst h1
   rw[aQ rfl];simp only[f,gA,gQ]
  ·rw[aS h1]
   simp only[f];rw[aS fun y=>h1 (List.cons.inj y).1]
def Me.row(x:Me):List Int:=[x.state,x.Am,x.Bw,x.off,x.seq,x.sum]
theorem Me.VG {x y:Me}:x.row=y.row↔x=y:=by
 cases x;cases y;simp[Me.row]
theorem VH(x y:Me)(k:EV->R):Jk iD (bin TT .eql 87) (.agg x.cells) (.agg y.cells) k=k (.bool (decide (x=y))):=by
 have he:TT.eqs 87=some [0,0,0,0,0,0]:=by kernel_rfl
 have h1:jq TT 87 (.agg x.cells) (.agg y.cells)=some (decide (x=y)):=by
  show(match TT.eqs 87 with|some sh=>Bb (shaped sh x.cells) (Ey x.cells y.cells) none|none=>none)=_;rw[he];simp only;rw[show shaped [0,0,0,0,0,0] x.cells=true from rfl,Aj,show x.cells=x.row.map I from rfl,show y.cells=y.row.map I from rfl,zI x.row y.row rfl];congr 1;rw[fT];exact Me.VG
 show oB k (match jq TT 87 (.agg x.cells) (.agg y.cells)with|some b=>some (EV.bool b)|none=>none)=_;rw[h1];rfl
theorem VI{x:Me}(hb:HB h)(o:x.state=1->Vv x.Am/\Vv x.Bw):Ok (Jm K (.agg x.cells) (gV g) h) fun v h'=>v=.bool (meR g x)/\Ext h h':=by
 unfold meR;by_cases s1:x.state=1
 ·rw[aK a_,aN s1]
  exact zJ hb s1 (o s1).1 (o s1).2
 ·simp only[Jm,gV,Aa]
  have f:Ext h ((h.new (.cells x.cells 87)).new (.cells (gL g) 23)):=(Aw.new _ _).Da _;have a:((h.new (.cells x.cells 87)).new (.cells (gL g) 23)).get h.next=some (.cells x.cells 87):=by
   rw[Az _ (aO _)];exact Ad _ _
  generalize (h.new (.cells x.cells 87)).new (.cells (gL g) 23)=h1 at f a⊢;rw[Ak a rfl (v:=I x.state) rfl];simp only[I,Ac];have eq:∀s,x.state=s->Ok (K8 K (.ptr h.next 0) (.ptr (h.next+1) 0) (.int .i64 s) (.bool true) h1) fun v h'=>v=.bool (decide (x=Me.nil x.state))/\Ext h h':=fun s hs=>by
   simp only[K8,Aa];rw[Cv a rfl,Ai (n:=6) rfl]
   try simp only[Aa]
   rw[Ak a rfl (v:=I x.state) rfl]
   try simp only[Aa]
   rw[Ax (l:=(Me.nil x.state).cells) rfl,VH];exact .ret ⟨rfl,f⟩
  by_cases h0:x.state=0
  ·rw[aN (.inl h0)]
   simp only[h0,aB,Aa];have:=eq 0 h0;rw[h0]at this;exact this
  ·by_cases h2:x.state=2
   ·rw[aN (.inr h2)]
    simp only[h2,show ¬((2:Int)=0) from c_,aA,aB,Aa];have:=eq 2 h2;rw[h2]at this;exact this
   ·rw[aK a_,aK s1]
    simp only[h0,s1,h2,aA,Aa,K8,Ac,zK];exact .ret ⟨rfl,f⟩
theorem VJ {α:Type}(f:Nat->α)(n j:Nat)(v:α):((List.range n).map f).set j v=(List.range n).map fun z=>if z=j then v else f z:=by
 apply eR;intro i;rw[List.getElem?_set,aY,aY];by_cases hi:i<n
 ·rw[cL hi]
  by_cases hj:j=i
  ·subst hj;simp[hi]
  ·simp[hj,cn hj]
 ·rw[cN (by simpa using hi)]
  simp only[bT,eh];split
  ·rw[aK a_];rfl
  ·rfl
theorem VK{x:Me}(h:meR g x=true)(h1:x.state=1):(0<=x.Am/\x.Am<g.D*g.Z)/\(0<=x.Bw/\x.Bw<g.D*g.Z)/\¬x.Am=x.Bw:=by
 unfold meR at h;rw[aK a_,aN h1]at h;unfold o9 Yj at h;simp only[bD,J8,av]at h;obtain⟨⟨_,⟨a,b⟩,_⟩,⟨_,⟨c,d⟩,_⟩,e,_⟩:=h;exact⟨⟨a,a_⟩,⟨c,a_⟩,fun y=>e (by rw[y])⟩
def pc(f:Int->Int)(z v:Int):Int->Int:=fun y=>if y=z then v else f y
theorem zL(n:Nat)(f:Int->Int)(j:Nat)(v:Int):((List.range n).map fun(z:Nat)=>I (f z)).set j (I v)=(List.range n).map fun(z:Nat)=>I (pc f j v z):=by
 rw[VJ];congr 1;funext z;unfold pc;by_cases h:z=j
 ·rw[aN h,aN a_]
 ·rw[aK h,aK a_]
theorem zM{ll:Nat}(hn:g.D*g.Z=n)(ab:n<=512)(hm:h.get b=some (.cells (gL g++[.slice ml 0 g.B.toNat g.B.toNat false,.slice ll 0 n n false]) 147)){f:Int->Int}(Y:h.get ll=some (.cells ((List.range n).map fun(z:Nat)=>I (f z)) 3))(hb:HB h){x:Me}(hx:meR g x=true){by':Int}(ae:by'=1\/by' = -1)(bd:∀z,-1000<=f z/\f z<=1000):
 Ok (S7 K (.ptr b 0) (.agg x.cells) (I by') h) fun v h'=>v=.tuple []/\h'.get ll=some (.cells ((List.range n).map fun(z:Nat)=>I (f z+by'*iC z x)) 3)/\Aw (fun i=>i=ll) h h'/\HB h':=by
 simp only[S7,Aa];obtain⟨h1,e_,J,g4,_⟩:=nW h (.cells x.cells 87);rw[e_];have o:=J.hb hb;have V:=J.at hb hm;have O:=J.at hb Y;rw[Ak g4 rfl (v:=I x.state) rfl];simp only[I,Ac];by_cases s1:x.state=1
 ·obtain⟨⟨a0,a1⟩,⟨c0,c1⟩,ne⟩:=VK hx s1
  obtain⟨j,hj⟩:=bL a0;obtain⟨k,hk⟩:=bL c0;have W:=o _ _ V;have X:=o _ _ g4;have p:=o _ _ O;have B1:=bd j;have B2:=bd k;simp only[s1,aB,Aa,Ar];rw[I6 W,Ak V rfl (v:=.slice ll 0 n n false) rfl]
  try simp only[Aa,Ar]
  rw[I6 X,Ak g4 rfl (v:=I x.Am) rfl,hj]
  try simp only[I,Aa,Ar]
  rw[Md a_,bI,cD,I6 p,Ak O rfl (vP n f (j:=j))];simp only[I,Ac,Ar];rw[Ci,Md a_,bI,cD,Hc];refine Ok.Z7 O rfl rfl (by simp;omega) ?_;have u:(h1.put ll (.cells (((List.range n).map fun(z:Nat)=>I (f z)).set j (I (f j+by'))) 3)).get ll=some (.cells ((List.range n).map fun(z:Nat)=>I (pc f j (f j+by') z)) 3):=by rw[Af,zL]
  have U:Aw (fun i=>i=ll) h1 (h1.put ll (.cells (((List.range n).map fun(z:Nat)=>I (f z)).set j (I (f j+by'))) 3)):=(Aw.refl (S:=fun i=>i=ll) h1).Ao (.inl rfl) p _;have nb:b≠ll:=Av V O (by intro y;injection y with _ y;cases y);have n4:h.next≠ll:=fun y=>by have:=hb _ _ Y;omega
  have E:=U.at o V nb;have G:=U.at o g4 n4;rw[show EV.int .i64 (f j+by')=I (f j+by')from rfl];generalize h1.put ll (.cells (((List.range n).map fun(z:Nat)=>I (f z)).set j (I (f j+by'))) 3)=h2 at u U E G⊢;have C:=U.hb o;have W:=C _ _ E;have X:=C _ _ G;have p:=C _ _ u;have nk:¬(k:Int)=j:=a_
  have fk:pc f j (f j+by') k=f k:=by unfold pc;rw[aK nk]
  try simp only[Ar]
  rw[I6 W,Ak E rfl (v:=.slice ll 0 n n false) rfl]
  try simp only[Aa,Ar]
  rw[I6 X,Ak G rfl (v:=I x.Bw) rfl,hk]
  try simp only[I,Aa,Ar]
  rw[Md a_,bI,cD,I6 p,Ak u rfl (vP n _ (j:=k)),fk];simp only[I,Ac,Ar];rw[Ci,Md a_,bI,cD,Hc];refine Ok.Z7 u rfl rfl (by simp;omega) ?_;refine .ret ⟨rfl,?_,(J.to.trans U).Ao (.inl rfl) p _,C.put p _⟩;rw[Af];have:(EV.int .i64 (f k+by'))=I (f k+by'):=rfl;rw[this,zL];congr 2;apply cr;intro z _;congr 1;unfold pc iC;rw[s1,hj,hk];by_cases e1:(z:Int)=k
  ·rw[aN e1,aN ⟨rfl,.inr e1.symm⟩,e1];omega
  ·rw[aK e1]
   by_cases e2:(z:Int)=j
   ·rw[aN e2,aN ⟨rfl,.inl e2.symm⟩,e2];omega
   ·rw[aK e2,aK (fun y=>y.2.elim (fun a=>e2 a.symm) fun a=>e1 a.symm)];omega
 ·simp only[s1,aA,Aa]
  refine .ret ⟨rfl,?_,J.to,o⟩;rw[O];congr 2;apply cr;intro z _;unfold iC;rw[aK (fun y=>s1 y.1),Int.mul_zero,Int.add_zero]
def jY(g:Gm)(es:List Me)(j:Int)(x:Me):List Me × Int:=if 0<=j/\j<es.length then(if meR g x=true then(es.set j.toNat x,0)else(es,10))else(es,13)
theorem zN{ll:Nat}(s:Sm g)(m:K7 h b ml ll g es)(hb:HB h){x:Me}(hz:x.state=1->Vv x.Am/\Vv x.Bw)(j:Int):
 Ok (J1 K (.ptr b 0) (I j) (.agg x.cells) h) fun v h'=>v=I (jY g es j x).2/\K7 h' b ml ll g (jY g es j x).1/\Aw (fun i=>i=ml\/i=ll) h h'/\HB h':=by
 have:=s.b0;have:=s.b1;have:=s.d0;have:=s.d1;have:=s.z0;have:=s.z1;obtain⟨m0,m1⟩:=Rp (a:=g.D) (b:=g.Z) (A:=8) (B:=64);simp only[J1,Aa];obtain⟨h1,e_,x1,g5,_⟩:=nW h (.cells x.cells 87);rw[e_];have O:=x1.hb hb;have M1:=m.ext fun i o q=>x1.at hb q
 refine(pa (K:=K) s M1 O j).Al ?_;rintro _ h2 ⟨rfl,x2⟩;have Y:=x2.hb O;simp only[Aa];refine Ok.vN (Ad _ _) rfl rfl ?_;obtain⟨h3,e_,x3,g7,_⟩:=nP h2 (.cells [EV.int .i64 0,.int .i64 0,.int .i64 0,.int .i64 0,.int .i64 0,.int .i64 0] 87) (.cells (h_ es j).1.cells 87);rw[e_];have u:=x3.hb Y;have U:Ext h h3:=(x1.trans x2).trans x3;have M3:=m.ext fun i o q=>U.at hb q
 have V:=x3.at Y (x2.at O g5);unfold jY;have hlen:=m.len;by_cases hj:0<=j/\j<es.length
 ·obtain⟨k,rfl⟩:=bL hj.1
  have hk:k<es.length:=a_
  have eg:h_ es (k:Int)=(es[k],0):=by
   unfold h_;rw[aN hj,bJ,aF hk];rfl
  rw[eg]at g7⊢;rw[aN hj];simp only[I,Ac,aC,aA,Aa,Ar];have l5:=u _ _ V;have lb:=u _ _ M3.map;rw[I6 l5,Cv V rfl,Ai (n:=6) rfl]
  try simp only[Aa,Ar]
  rw[I6 lb,Cd M3.map rfl (show Ke (gL g++[.slice ml 0 g.B.toNat g.B.toNat false,.slice ll 0 (g.D*g.Z).toNat (g.D*g.Z).toNat false]) 0 6=some (gL g)from rfl)]
  try simp only[Aa,Ar]
  rw[show EV.agg (gL g)=gV g from rfl];refine Ok.bE (VI (K:=K) (g:=g) (x:=x) (Cz u) hz) (fun _ _ p=>p.2) ?_;rintro _ ca h4 ⟨rfl,_⟩ _ x4;have E:=x4.hb u;have W:Ext h h4:=U.trans x4;have G:=m.ext fun i o q=>W.at hb q
  by_cases hr:meR g x=true
  ·rw[aN hr,hr]
   simp only[Aa,zO];have az:=x4.at u g7;have a1:=x4.at u V;rw[Cv az rfl,Ai (n:=6) rfl]
   try simp only[Aa]
   have hn:g.D*g.Z=((g.D*g.Z).toNat:Int):=a_
   have bd:∀z,-1000<=W7 es z/\W7 es z<=1000:=fun z=>by have:=sP z es;omega
   refine(zM (K:=K) (ml:=ml) hn a_ G.map G.live E (x:=es[k]) (m.ok _ (aZ hk)) (by':=-1) (.inr rfl) bd).Al ?_;rintro _ h5 ⟨rfl,a2,c5,J⟩;have nb:b≠ll:=Av G.map G.live (by intro y;injection y with _ y;cases y);have nm:ml≠ll:=Av G.row G.live (by intro y;injection y with _ y;cases y);have a6:b≠ml:=Av G.map G.row (by intro y;injection y with _ y;cases y);have aa:h.next≠ll:=fun y=>by have:=hb _ _ m.live;omega
   have cb:h.next≠ml:=fun y=>by have:=hb _ _ m.row;omega
   have ab:=c5.at E G.map nb;have a7:=c5.at E G.row nm;have ad:=c5.at E a1 aa;rw[Cv ad rfl,Ai (n:=6) rfl]
   try simp only[Aa]
   refine(zM (K:=K) (ml:=ml) hn a_ ab a2 J (x:=x) hr (f:=fun z=>W7 es z + -1*iC z es[k]) (by':=1) (.inl rfl) (fun z=>by
    show -1000<=W7 es z + -1*iC z es[k]/\W7 es z + -1*iC z es[k]<=1000;have:=sP z es;have:=zE z es[k];omega)).Al ?_
   rintro _ h6 ⟨rfl,ba,c6,C⟩;have X:=c6.at J ab nb;have ae:=c6.at J a7 nm;have af:=c6.at J ad aa;have bb:=C _ _ X;have bf:=C _ _ af;have bj:=C _ _ ae
   try simp only[Ar]
   rw[I6 bb,Ak X rfl (v:=.slice ml 0 g.B.toNat g.B.toNat false) rfl]
   try simp only[Aa,Ar]
   rw[I6 bf,Cv af rfl,Ai (n:=6) rfl]
   try simp only[Aa,Ar]
   rw[Md a_,bI,Hc];have fs:Nl (es.map Me.cells).flatten (k*6) x.cells=some ((es.set k x).map Me.cells).flatten:=by
    rw[zP (n:=6) (fun y hy=>by obtain⟨z,_,rfl⟩:=b9.1 hy;rfl) (by rw[bT];exact hk) rfl,List.map_set]
   refine Ok.st _ ae rfl rfl fs ?_;have c7:Aw (fun i=>i=ml) h6 (h6.put ml (.cells ((es.set k x).map Me.cells).flatten 87)):=(Aw.refl (S:=fun i=>i=ml) h6).Ao (.inl rfl) bj _;have bn:=c7.at C X a6;have bo:=c7.at C ba (cn nm);refine .ret ⟨rfl,⟨bn,Af _ _ _,?_,by rw[bY];exact hlen,fun y hy=>?_⟩,?_,c7.hb C⟩
   ·rw[bo]
    congr 2;apply cr;intro z _;rw[bJ,zF z x es k hk];congr 1;omega
   ·rcases dO hy with y'|rfl
    ·exact m.ok _ y'
    ·exact hr
   ·exact(Ext.to W).trans (((c5.mono fun i e=>.inr e).trans (c6.mono fun i e=>.inr e)).trans (c7.mono fun i e=>.inl e))
  ·have bp:meR g x=false:=by cases h:meR g x<;>simp_all
   rw[aK hr,bp];simp only[Aa];exact .ret ⟨rfl,G,W.to,E⟩
 ·have eg:h_ es j=(Me.nil 0,13):=by unfold h_;rw[aK hj]
  rw[eg,aK hj];simp only[I,Ac,show ¬((13:Int)=0) from c_,aH,aB,Aa];exact .ret ⟨rfl,M3,U.to,u⟩
theorem VL{z:Nat}{size:Int}{Z:Zn}(f:Fk h z q size Z)(hb:HB h):
 Ok (Ha K (.ptr z 0) h) fun v h'=>v=I (Ki Z.st)/\Fk h' z q size (if Ki Z.st=0 then Zn.empty else Z)/\Aw (fun i=>i=z) h h'/\HB h':=by
 obtain⟨s,g,r⟩:=f.Am;have a:=hb _ _ g;simp only[Ha,X4 f,Aa,I,Ac];by_cases o:Ki Z.st=0
 ·simp only[o,aC,aA,Aa,bM,O4]
  refine Ok.Z7 g rfl rfl (by show 0<5;decide) ?_;refine Ok.Z7 (Af _ _ _) rfl rfl (by show 2<5;decide) ?_;refine Ok.Z7 (Af _ _ _) rfl rfl (by show 3<5;decide) ?_;refine Ok.Z7 (Af _ _ _) rfl rfl (by show 4<5;decide) ?_;refine .ret ⟨rfl,⟨⟨.An,Af _ _ _,Bu.nil _ _ _ _⟩,fun x p=>by cases p⟩,((((Aw.refl (S:=fun i=>i=z) h).Ao (.inl rfl) a _).Ao (.inl rfl) a _).Ao (.inl rfl) a _).Ao (.inl rfl) a _,(((hb.put a _).put a _).put a _).put a _⟩
 ·simp only[o,aH,aB,Aa,ak]
  exact .ret ⟨rfl,f,Aw.refl _,hb⟩
def Dv.reset(D:Dv)(i:Int):Dv × Int:=
 if D.Ez i≠0 then(D,D.Ez i)else
 (if Ki (D.zs i.toNat).st=0 then D.tick.set i.toNat Zn.empty else D.tick,Ki (D.zs i.toNat).st)
theorem Zn.Wf.empty {size:Nat}(h:0<size):Zn.empty.Wf size:=⟨fun x a=>(by cases a),by show 0<=4;omega,aD _,cO _,fun _=>h⟩
theorem VM{V:Nat}(d:Hv h V D F)(hb:HB h)(hs:0<D.size)(i:Int):
 Ok (Sn K (.ptr V 0) (I i) h) fun v h'=>v=I (D.reset i).2/\Hv h' V (D.reset i).1 (Bg F h h')/\Aw F h h'/\HB h':=by
 simp only[Sn,dr];refine(sS (K:=K) d hb i).Al ?_;rintro _ h2 ⟨rfl,d2,c2,p,W⟩;unfold Dv.reset;by_cases f:D.Ez i=0
 ·rw[aK (by rw[f];exact fun y=>y rfl),f]
  have C:D.begin i=D.tick:=by unfold Dv.begin;rw[aN f]
  rw[C]at d2;obtain⟨j,rfl,hj⟩:=Dv.sT f;obtain⟨zl,z,q,a,b⟩:=d2.Ly;obtain⟨G,J⟩:=a.qw (j:=j) hj;simp only[I,Ac,aC,aA,Aa,zQ,a.list,G,J];refine(VL (K:=K) (a.Am j hj) p).Al ?_;rintro _ O ⟨rfl,E,c3,u⟩
  try simp only[Aa]
  rw[show(j:Int).toNat=j from rfl];have E:Fk O (z j) (q j) D.size (if Ki (D.zs j).st=0 then Zn.empty else D.zs j):=E;by_cases U:Ki (D.zs j).st=0
  ·simp only[U,bM]at E⊢
   obtain⟨d3,o⟩:=Hv.Am d2.wf a b d2.lt p hj (Zn.Wf.empty hs) E (c3.mono fun _=>.inl) u (fun y=>absurd rfl y);refine .ret ⟨by rw[show Ki (D.tick.zs j).st=Ki (D.zs j).st from rfl,U],d3.mono (fun i hi=>?_) (Bg.lt d.lt (c2.trans o).next),c2.trans o,u⟩;rcases hi with y|y
   ·exact .inl y
   ·exact .inr ⟨bN c2.next y.1,y.2⟩
  ·simp only[U,ak]at E⊢
   obtain⟨d3,o⟩:=Hv.Am d2.wf a b d2.lt p hj (d2.wf.zs j hj) E (c3.mono fun _=>.inl) u (fun y=>.inr ⟨rfl,y⟩);have e:D.tick.set j (D.zs j)=D.tick:=by
    unfold Dv.set;have:Wm D.tick.zs j (D.zs j)=D.tick.zs:=by funext k;unfold Wm;split<;>simp_all [Dv.tick]
    rw[this]
   have d3:Hv O V (D.tick.set j (D.zs j)) (Bg F h2 O):=d3;rw[e]at d3;refine .ret ⟨rfl,d3.mono (fun i hi=>?_) (Bg.lt d.lt (c2.trans o).next),c2.trans o,u⟩;rcases hi with y|y
   ·exact .inl y
   ·exact .inr ⟨bN c2.next y.1,y.2⟩
 ·rw[aN f]
  have C:D.begin i=D:=by unfold Dv.begin;rw[aK f]
  rw[C]at d2;simp only[I,Ac,f,aH,aB,Aa];exact .ret ⟨rfl,d2.grow d.lt c2.next,c2,p⟩
def Jj.reset(S:Jj)(i:Int):Jj × Int:=({ S.begin i with dv:=((S.begin i).dv.reset i).1 },((S.begin i).dv.reset i).2)
theorem VN(H:Ca disp)(hK:1000<K)(hd:14<=d){D:Nat}{S:Jj}{G:Nat->Prop}(f:lQ disp K S)(s:Fo h D S G)(hb:HB h)(i:Int)(hs:0<(S.begin i).dv.size):
 Ok (Ag TT disp K d false 96 [.ptr D 0,I i] h) fun v h'=>v=I (S.reset i).2/\Fo h' D (S.reset i).1 (Bg G h h')/\Aw G h h'/\HB h':=by
 obtain⟨e,rfl⟩:=d_ d;rw[VO H a_];simp only[zR,dr];refine(sU (K:=K) H a_ f s hb i).Al ?_;rintro _ h2 ⟨s2,c2,o⟩;unfold Jj.reset;generalize S.begin i=T at s2 hs⊢;obtain⟨V,M,qc,qh,cs,O,ms,F,a⟩:=s2.Ly;simp only[Aa,Cy a.C0 rfl];refine(VM (K:=K) a.dev o hs i).Al ?_;rintro _ U ⟨rfl,d3,c3,p⟩;obtain⟨W,u⟩:=s2.put a o d3 c3;have J:=W.vR c2.next u.next s.lt
 have c4:=c2.grow u;simp only[I,Ac];by_cases he:(T.dv.reset i).2=0
 ·simp only[he,aB,Aa,Ya]
  have X:(T.dv.reset i).1.size<=64:=d3.wf.size;refine(VP (K:=K) i K 0 U (by show(T.dv.reset i).1.size-0<K;omega) J p).Al ?_;rintro _ h5 ⟨Y,C,E⟩;simp only[Uq,dr];refine .ret ⟨by rw[<-he],Y.mono (fun j hj=>Bg.le C.next hj) (Bg.lt s.lt (bN c4.next C.next)),c4.grow C,E⟩
 ·simp only[he,aA,Aa,Uq]
  exact .ret ⟨rfl,J,c4,p⟩
theorem Ok.VQ{s:DX}{call:Ab->R}{k:EV->Ab->DX->R}{P:EV->Ab->Prop}(hb:Ab3 b s=true)(C:Ok (call (Ic b s h)) P)(he:∀v h1,P v h1->Ext (Ic b s h) h1)
 (E:∀v h1 h2,P v h1->(∀i,h2.get i=if i∈loose b s.nw then h.get i else h1.get i)->h2.next=h1.next->Ext h h2->Ok (k v h2 (s.big i)) Q):Ok (Ev.Kw i b s h call k) Q:=by
 obtain⟨v,h1,e,p⟩:=C;have x:=he v h1 p;have hm:h.next<=h1.mw:=x.mw h.next (aD _) (aD _) fun _ y=>y.elim
 have u:∀j,(Ic b s h).get j=if j∈loose b s.nw then none else h.get j:=fun j=>by rw[iS];exact(vS _ _ _).trans (by rw[iS])
 have G:Ev.Kw i b s h call k=k v ⟨jZ h.t h1.t (loose b s.nw),h1.next,h.mw⟩ (s.big i):=by
  show Bb (Ab3 b s) (Ev.Al (call (Ic b s h)) fun v h'=>Mw i b s h h' fun s h=>k v h s) none=_;rw[hb,Aj,e];show Mw i b s h h1 (fun s h=>k v h s)=_;unfold Mw;rw[aM hm,Aj]
 rw[G];have f:∀j,(⟨jZ h.t h1.t (loose b s.nw),h1.next,h.mw⟩:Ab).get j=if j∈loose b s.nw then h.get j else h1.get j:=fun j=>by
  rw[iS];exact(vT _ _ _ _).trans (by rw[iS,iS])
 refine E v h1 _ p f rfl ⟨fun j hj J=>?_,x.next,fun w w1 _ _=>w1,fun y q o a=>?_⟩
 ·rw[f]
  split
  ·rfl
  next O=>
   rw[x.get j hj J,u,aK O]
 ·rw[f]at a
  split at a
  ·exact aL (y q o a) x.next
  ·exact x.hb (fun q o a=>by
    rw[u]at a;split at a
    ·cases a
    ·exact y q o a) q o a
theorem zS {z:List EV}{e:Nat}(a:n<=65536)(h:Ab):Wl z e (I n) (I n) h=some (.slice h.next 0 n n false,h.new (.cells (rep z n) e)):=by
 show Bb (Nat.ble n n) (Bb (Nat.ble n 65536) _ none) none=_;rw[aM (aD _),Aj,aM a,Aj]
theorem zT:∀(Cn new:List EV),new.length<=Cn.length->J0 Cn new=some (new++Cn.drop new.length)
 | Cn,[],_=>by cases Cn<;>rfl
 | [],b::r,h=>by simp at h
 | a::Cn,b::r,h=>by
  show(match J0 Cn r with|some x=>some (b::x)|none=>none)=_;rw[zT Cn r (by simpa using h)];rfl
theorem VR{r:Nat}{op:Bool}{t:TypeId}{Cn new:List EV}{y:EV}(g:h.get i=some (.cells Cn t))(o:lenOf y=some n)(u:0<n)(hm:n<=m)(f:Pw h 1 n y=some new)(p:new.length=n)(C:Cn.length=m):
 builtin TT .copy #[106,106] [.slice i 0 m r op,y] h=some (I n,h.put i (.cells (new++Cn.drop n) t)):=by
 have hu:TT.Ud 106=some (.slice 5):=by kernel_rfl
 have hs:TT.size 5=some 1:=by kernel_rfl
 have hb:Nat.ble n m=true:=aM hm;have h0:Nat.beq n 0=false:=by cases n with|zero=>omega|succ n=>rfl
 have hw:Mx h i 0 new=some (h.put i (.cells (new++Cn.drop n) t)):=by
  unfold Mx;rw[g];simp only;have:Fx Cn 0 new=J0 Cn new:=by cases Cn<;>rfl
  rw[this,zT Cn new a_,p]
 rw[sV]at f;have a:lenOf (.slice i 0 m r op)=some m:=rfl;unfold builtin;simp only[hu,hs,a,o,hb,Aj,h0,Bk,f,hw];rfl
structure vU(h:Ab)(P t:Nat)(out:List Nat)(S:Nat->Prop):Prop where
 Ly:∃s q,h.get P=some (.cells [s,.bool false] t)/\Bu h s q 5 1 out.length (Bh out)/\(0<out.length->P≠q/\S q)
 own:S P
theorem VT {w:Nat}{a:Nat}(G:a<9223372036854775808)(hw:w<=7)(J:out.length<=60000){S:Nat->Prop}(h0:Ab)(hS:∀i,h0.next<=i->S i):∀(m i:Nat) (h:Ab),w-i<m->i<=w->HB h->Aw S h0 h->vU h P t (out++N1 i a) S ->
 Ok (Jw K m (.ptr P 0) (Nk .i64 (a/256^i)) (I w) (I i) h) fun _ h'=>vU h' P t (out++N1 w a) S/\Aw S h0 h'/\HB h':=by
 intro m;induction m with
 | zero=>intro i h hm;omega
 | succ m C=>
  intro i h hm hi hb c p;obtain⟨s,q,g,r,l⟩:=p.Ly;simp only[Jw,I,Ac,Aa];by_cases f:(i:Int)<w
  ·simp only[f,aB,Aa,vV,Cy g rfl]
   rw[wrap_u8];have hlen:(out++N1 i a).length=out.length+i:=by rw[aE,C9]
   refine Kv (z:=[.int .u8 0]) r hb rfl rfl rfl a_ a_ ?_;intro h2 E O c2;have o:=c2.at hb g fun y=>(l y.1).1 y.2
   have u:=(c2.hb hb) _ _ o;refine Ok.Z7 o rfl rfl (by show 0<2;decide) ?_;rw[qy];simp only[vW,I,Ac];rw[Ci,fF,<-eU];have c3:Aw S h (h2.put P (.cells ([s,EV.bool false].set 0 (.slice (h.next+1) 0 ((out++N1 i a).length+1) ((out++N1 i a).length+1) true)) t)):=(c2.mono fun j hj=>hj.2▸(l hj.1).2).Ao (.inl p.own) u _;refine C (i+1) _ a_ a_ ((c2.hb hb).put u _) (c.trans c3) ?_;rw[vX,<-bQ];have lt:=hb _ _ g;refine⟨⟨_,h.next+1,Af _ _ _,?_,fun _=>⟨a_,hS _ (by have:=c.next;omega)⟩⟩,p.own⟩;have e1:((out++N1 i a)++[a/256^i%256]).length=(out++N1 i a).length+1:=by rw[aE];rfl
   have e2:Bh ((out++N1 i a)++[a/256^i%256])=Bh (out++N1 i a)++EV.cells (Nk .u8 (a/256^i%256)):=by rw[qz];rfl
   rw[e1,e2];exact E.frame fun _=>Ae _
  ·have:i=w:=a_
   subst this;simp only[f,aA,Aa];exact .ret ⟨p,c,hb⟩
def im(h:Ab)(P:Nat)(out:List Nat)(S:Nat->Prop):Prop:=vU h P 222 out S/\∀b∈out,b<256
theorem im.chg{S T:Nat->Prop}(p:im h P out S)(hb:HB h)(c:Aw T h h')(no:∀i,S i->i<h.next->¬T i):im h' P out S:=by
 obtain⟨⟨⟨s,q,g,r,l⟩,o⟩,b⟩:=p;exact⟨⟨⟨s,q,c.at hb g (no _ o (hb _ _ g)),r.frame fun y=>c.get _ (hb _ _ (r.block y)) (no _ (l y).2 (hb _ _ (r.block y))),l⟩,o⟩,b⟩
theorem im.mono{S T:Nat->Prop}(p:im h P out S)(s:∀i,S i->T i):im h P out T:=by
 obtain⟨⟨⟨e,q,g,r,l⟩,o⟩,b⟩:=p;exact⟨⟨⟨e,q,g,r,fun y=>⟨(l y).1,s _ (l y).2⟩⟩,s _ o⟩,b⟩
def vY(S:Nat->Prop)(h:Ab):Nat->Prop:=fun i=>S i\/h.next<=i
theorem VU {w:Nat}{S:Nat->Prop}(hK:1000<K)(p:im h P out S)(hb:HB h)(J:out.length<=1000)(h1:1<=w)(u:w<=7)(v0:0<=v)(O:v<=9223372036854775807)(U:v<(256^w:Nat)):
 Ok (Eh K (.ptr P 0) (.int .i64 w) (.int .i64 v) h) fun _ h'=>im h' P (out++N1 w v.toNat) (vY S h)/\Aw S h h'/\HB h':=by
 obtain⟨p,hu⟩:=p.mono (T:=vY S h) fun i=>.inl
 obtain⟨a,rfl⟩:=bL v0;have f:a<9223372036854775808:=a_
 have C:=(zU f h1 u).2 a_;simp only[Eh,dr];have E:=vZ (K:=K) (w:Int) h;simp only[I]at E;rw[E,aQ ⟨a_,a_⟩];simp only[Aa,Ac];have wp:=zV (K:=K) f hK h;rw[show(EV.int .i64 (a:Int))=.int .i64 (Int.ofNat a)from rfl,wp,Aq];simp only[Nk,Ac];rw[show decide ((w:Int)<Int.ofNat (ks a))=false from aS (by show ¬(w:Int)<((ks a:Nat):Int);omega)];simp only[Aa,Pp,v8];have:=VT (K:=K) (P:=P) (t:=222) (w:=w) f u (out:=out) a_ (S:=vY S h) h (fun i=>.inr) K 0 h a_ (cO _) hb (Aw.refl _) (by simpa [N1]using p);rw[Nat.pow_zero,Nat.div_one]at this;refine this.mono ?_;rintro _ h' ⟨G,c,o⟩;refine⟨⟨G,fun b hb=>?_⟩,⟨fun i hi hs=>c.get i hi fun y=>?_,c.next,fun w1 e1 e2 e3=>c.mw w1 e1 e2 fun i hi=>?_,c.hb⟩,o⟩
 ·rcases bO.1 hb with y|y
  ·exact hu b y
  ·exact Jr _ _ b y
 ·rcases y with y|y
  ·exact hs y
  ·omega
 ·rcases hi with hi|hi
  ·exact e3 i hi
  ·omega
theorem zW{S:Nat->Prop}(o:S h.next):im (h.new (.cells [.An,.bool false] 222)) h.next [] S:=⟨⟨⟨.An,0,Ad _ _,Bu.nil _ _ _ _,fun y=>absurd y (bU _)⟩,o⟩,fun b hb=>by cases hb⟩
def ic(l:List Nat):List Nat:=l++List.replicate (44-l.length) 0
theorem v_ {l:List Nat}(h:l.length<=44):(ic l).length=44:=by unfold ic;rw[aE,bW];omega
theorem wa {l:List Nat}(h:∀b∈l,b<256):∀b∈ic l,b<256:=fun b hb=>by
 rcases bO.1 hb with y|y
 ·exact h b y
 ·rw[cC y];decide
structure nM(v:EV)(l:List Nat):Prop where
 eq:v=.agg (Bh l)
 len:l.length=44
 u8:∀b∈l,b<256
theorem zX{S:Nat->Prop}(p:im h P out S)(hb:HB h)(h0:0<out.length)(hn:out.length<=44):Ok (qA K (.ptr P 0) h) fun v h'=>nM v (ic out)/\Ext h h'/\HB h':=by
 obtain⟨a,hu⟩:=p;simp only[qA,Aa];rw[show(h.new (.cells (List.replicate 44 (EV.int .u8 0)) 134)).next=h.next+1 from rfl];have u:Ext h ((h.new (.cells (List.replicate 44 (EV.int .u8 0)) 134)).new (.cells (List.replicate 44 (EV.int .u8 0)) 134)):=(Aw.new _ _).Da _;have O:((h.new (.cells (List.replicate 44 (EV.int .u8 0)) 134)).new (.cells (List.replicate 44 (EV.int .u8 0)) 134)).get h.next=some (.cells (List.replicate 44 (EV.int .u8 0)) 134):=by
  rw[Az _ (aO _)];exact Ad _ _
 have C:((h.new (.cells (List.replicate 44 (EV.int .u8 0)) 134)).new (.cells (List.replicate 44 (EV.int .u8 0)) 134)).get (h.next+1)=some (.cells (List.replicate 44 (EV.int .u8 0)) 134):=Ad _ _;generalize (h.new (.cells (List.replicate 44 (EV.int .u8 0)) 134)).new (.cells (List.replicate 44 (EV.int .u8 0)) 134)=h1 at u O C⊢;have f:=u.hb hb;obtain⟨⟨s,q,g,r,l⟩,_⟩:=a;refine(zY (K:=K) (u.at hb g) (r.frame fun y=>u.get _ (hb _ _ (r.block y)) id) f a_).Al ?_;rintro _ h2 ⟨y,q',rfl,ry,U,V,lq⟩;have O:=U.at f O;have C:=U.at f C;simp only[Aa];rw[show ∀k:EV->R,Oa 44 1 (.ptr (h.next+1) 0) none none none k=k (.slice (h.next+1) 0 44 44 false)from fun k=>rfl];have E:=ry.bs a_;have W:=VR (h:=h2) (i:=h.next+1) (n:=out.length) (m:=44) (r:=44) (op:=false) (t:=134) (Cn:=List.replicate 44 (EV.int .u8 0)) C E.len h0 hn E.cells (by rw[Bf]) (by simp);rw[W,Aq];have l3:=V _ _ C;have ee:Bh out++(List.replicate 44 (EV.int .u8 0)).drop out.length=Bh (ic out):=by
  unfold ic;rw[qz,List.drop_replicate];unfold Bh;rw[gE];rfl
 rw[ee];have o:=v_ hn;have G:=wa hu;generalize ic out=l at o G⊢;have g5:(h2.put (h.next+1) (.cells (Bh l) 134)).get (h.next+1)=some (.cells (Bh l) 134):=Af _ _ _;have X:(h2.put (h.next+1) (.cells (Bh l) 134)).get h.next=some (.cells (List.replicate 44 (EV.int .u8 0)) 134):=by rw[Ae _];exact O
 have Y:=u.trans U;have x5:=Y.Ao (i:=h.next+1) (.inr a_) l3 (.cells (Bh l) 134);generalize h2.put (h.next+1) (.cells (Bh l) 134)=h5 at g5 X x5⊢;have J:=x5.hb hb;have ul:(Bh l).length=44:=by rw[Bf,o]
 rw[Cv g5 rfl,Ai ul];simp only[G6];have l6:=J _ _ X;refine Ok.st (Bh l) X rfl (by show Fw (Bh l)=44;rw[Be,ul]) (Bl (by show(List.replicate 44 (EV.int .u8 0)).length=(Bh l).length;rw[ul,bW])) ?_;rw[Rb (Af _ _ _) pe.1 pe.2 ul];exact .ret ⟨⟨rfl,o,G⟩,x5.Ao (.inr (aD _)) l6 _,J.put l6 _⟩
theorem zZ{z:List EV}{v:EV}{l:List Nat}(o:nM v l)(a:h.get i=some (.cells z 134))(p:z.length=44)(x:Ext h0 h)(hb:HB h)(hi:h0.next<=i):Ok (Vz 44 (.ptr i 0) v h fun h=>Gi TT [.c (.ptr i 0) 134] h) fun v h'=>nM v l/\Ext h0 h'/\HB h':=by
 obtain⟨rfl,f,hu⟩:=o;have ul:(Bh l).length=44:=by rw[Bf,f]
 have lt:=hb _ _ a;refine Ok.st (Bh l) a rfl (by show Fw (Bh l)=44;rw[Be,ul]) (Bl (by show z.length=(Bh l).length;rw[ul,p])) ?_;rw[Rb (Af _ _ _) pe.1 pe.2 ul];exact .ret ⟨⟨rfl,f,hu⟩,x.Ao (.inr hi) lt _,hb.put lt _⟩
theorem qB:∀(l:List (List EV)) (j:Nat) (x:List EV),(∀x∈l,x.length=n)->l[j]? = some x->Ke l.flatten (j*n) n=some x:=by
 have len:∀l:List (List EV),(∀x∈l,x.length=n)->l.flatten.length=l.length*n:=fun l=>by
  induction l with
  | nil=>intro _;simp
  | cons a r o=>intro h;rw[cJ,aE,h a (aW ..),o fun x f=>h x (aV _ f),bP,fJ];omega
 intro l j x p f;have hj:=(bA.1 f).1;rw[E4 (by rw[len l p];have:=Nat.mul_le_mul_right n (show j+1<=l.length from hj);rw[fJ]at this;exact this)];congr 1;induction l generalizing j with
 | nil=>cases f
 | cons a r o=>
  have u:=p a (aW ..);cases j with
  | zero=>
   rw[bR]at f;cases f;rw[fZ,dK,cJ,<-u,dQ]
  | succ j=>
   rw[cM]at f;rw[cJ,fJ,show j*n+n=a.length+j*n from a_,<-cK,dN];exact o j (fun x f=>p x (aV _ f)) f (bA.1 f).1
theorem Ok.j4{z:List EV}(f:h.get i=some (.cells z t))(o:z.length=n)(a:xs.length=n)(p:Ok (kk (h.put i (.cells xs t))) Q):Ok (Vz n (.ptr i 0) (.agg xs) h kk) Q:=
 Ok.st xs f rfl (by show Fw xs=n;rw[Be,a]) (Bl (by show z.length=xs.length;rw[a,o])) p
theorem im.less{S T:Nat->Prop}(p:im h P out S)(hb:HB h)(t:∀i,S i->i<h.next->T i):im h P out T:=by
 obtain⟨⟨⟨e,q,g,r,l⟩,o⟩,b⟩:=p;exact⟨⟨⟨e,q,g,r,fun y=>⟨(l y).1,t _ (l y).2 (hb _ _ (r.block y))⟩⟩,t _ o (hb _ _ g)⟩,b⟩
theorem R6 {w:Nat}{S:Nat->Prop}(hK:1000<K)(p:im h P out S)(hb:HB h)(hS:∀i,h.next<=i->S i)(f:out.length<=1000)(h1:1<=w)(o:w<=7)(v0:0<=v:=by omega)(u:v<=9223372036854775807:=by omega)(C:v<(256^w:Nat):=by omega):
 Ok (Eh K (.ptr P 0) (.int .i64 w) (.int .i64 v) h) fun _ h'=>im h' P (out++N1 w v.toNat) S/\Aw S h h'/\HB h'/\∀i,h'.next<=i->S i:=
 (VU hK p hb f h1 o v0 u C).mono fun _ _ ⟨a,c,b⟩=>⟨a.mono fun i hi=>hi.elim id (hS i),c,b,fun i hi=>hS i (bN c.next hi)⟩
theorem P6{ll:Nat}(m:K7 h b ml ll g es)(hb:HB h):Ok (Gx K (.ptr b 0) h) fun v h'=>v=gV g/\Ext h h'/\HB h':=by
 simp only[Gx,Aa];have a:Ext h (h.new (.cells [EV.int .i64 0,.int .i64 0,.int .i64 0,.int .i64 0,.int .i64 0,.int .i64 0] 23)):=Aw.new _ _;have o:=a.hb hb;rw[Cv (a.at hb m.map) rfl,show Ke (gL g++[.slice ml 0 g.B.toNat g.B.toNat false,.slice ll 0 (g.D*g.Z).toNat (g.D*g.Z).toNat false]) 0 6=some (gL g)from rfl];simp only[Aa];refine Ok.st (gL g) (Ad _ _) rfl rfl (Bl rfl) ?_;rw[Rb (Af _ _ _) sW.1 sW.2 rfl];have f:=a.Ao (i:=h.next) (.inr (aD _)) (aO _) (.cells (gL g) 23);exact .ret ⟨rfl,f,f.hb hb⟩
theorem wc(s:Sm g){x:Me}(h:meR g x=true):(0<=x.state/\x.state<=2)/\(0<=x.Am/\x.Am<=511)/\(0<=x.Bw/\x.Bw<=511)/\(0<=x.off/\x.off<=63)/\(0<=x.seq/\x.seq<=281474976710655)/\(0<=x.sum/\x.sum<=4294967295):=by
 have:=s.d0;have:=s.d1;have:=s.z0;have:=s.z1;have:=s.s1;obtain⟨o,p⟩:=Rp (a:=g.D) (b:=g.Z) (A:=8) (B:=64);unfold meR at h;split at h
 next h0=>
  rw[cX h];unfold Me.nil;refine⟨?_,?_,?_,?_,?_,?_⟩<;>simp only<;>omega
 ·split at h
  ·unfold o9 Yj at h
   simp only[bD,J8,av]at h;obtain⟨⟨_,⟨a,b⟩,c,d⟩,⟨_,⟨e,f⟩,_⟩,_,i,j,k,l⟩:=h;refine⟨?_,?_,?_,?_,?_,?_⟩<;>omega
  ·cases h
theorem wg(h:∀x∈es,meR g x=true)(j:Int):meR g (h_ es j).1=true:=by
 have n0:meR g (Me.nil 0)=true:=by unfold meR;rw[aN (.inl rfl)];exact aQ rfl
 unfold h_;split
 ·cases a:es[j.toNat]? with
  | none=>exact n0
  | some y=>exact h y (dR a)
 ·exact n0
def jB(x:Me):List Nat:=N1 1 x.state.toNat++(N1 2 x.Am.toNat++(N1 2 x.Bw.toNat++(N1 1 x.off.toNat++(N1 6 x.seq.toNat++N1 4 x.sum.toNat))))
theorem z7(x:Me):(jB x).length=16:=by unfold jB;simp only[aE,C9]
theorem VV(sm:Sm g){x:Me}(hx:meR g x=true){S:Nat->Prop}(hK:1000<K)(p:im h P out S)(hb:HB h)(hS:∀i,h.next<=i->S i)(hn:out.length<=900):
 Ok (sX K (.ptr P 0) (.agg x.cells) h) fun _ h'=>im h' P (out++jB x) S/\Aw S h h'/\HB h'/\∀i,h'.next<=i->S i:=by
 obtain⟨b1,b2,b3,b4,b5,b6⟩:=wc sm hx;simp only[sX,Aa];obtain⟨h1,e_,G,U,n1⟩:=nW h (.cells x.cells 87);rw[e_];have f:=G.hb hb;have t1:∀i,h1.next<=i->S i/\i≠h.next:=fun i hi=>⟨hS i a_,a_⟩
 have p1:im h1 P out (fun i=>S i/\i≠h.next):=(p.less hb (T:=fun i=>S i/\i≠h.next) fun i a b=>⟨a,a_⟩).chg hb G fun _ _ _=>id
 rw[Ak U rfl (v:=I x.state) rfl];refine(R6 hK p1 f t1 a_ (w:=1) a_ a_ (v:=x.state)).Al ?_;rintro _ h2 ⟨p2,c2,o,t2⟩;have V:=c2.at f U fun y=>y.2 rfl
 rw[Ak V rfl (v:=I x.Am) rfl];refine(R6 hK p2 o t2 (by simp only[aE,C9];omega) (w:=2) a_ a_ (v:=x.Am)).Al ?_;rintro _ h3 ⟨p3,c3,u,t3⟩;have W:=c3.at o V fun y=>y.2 rfl
 rw[Ak W rfl (v:=I x.Bw) rfl];refine(R6 hK p3 u t3 (by simp only[aE,C9];omega) (w:=2) a_ a_ (v:=x.Bw)).Al ?_;rintro _ h4 ⟨p4,c4,C,t4⟩;have g4:=c4.at u W fun y=>y.2 rfl
 rw[Ak g4 rfl (v:=I x.off) rfl];refine(R6 hK p4 C t4 (by simp only[aE,C9];omega) (w:=1) a_ a_ (v:=x.off)).Al ?_;rintro _ h5 ⟨p5,X,E,t5⟩;have Y:=X.at C g4 fun y=>y.2 rfl
 rw[Ak Y rfl (v:=I x.seq) rfl];refine(R6 hK p5 E t5 (by simp only[aE,C9];omega) (w:=6) a_ a_ (v:=x.seq)).Al ?_;rintro _ h6 ⟨p6,c6,J,t6⟩;have g6:=c6.at E Y fun y=>y.2 rfl
 rw[Ak g6 rfl (v:=I x.sum) rfl];refine(R6 hK p6 J t6 (by simp only[aE,C9];omega) (w:=4) a_ a_ (v:=x.sum)).Al ?_;rintro _ h7 ⟨p7,c7,O,t7⟩;have p8:im h7 P (out++jB x) S:=by
  unfold jB;simp only[<-bQ];exact p7.mono fun i hi=>hi.1
 exact .ret ⟨p8,(G.mono fun _=>False.elim).trans (((((c2.trans c3).trans c4).trans X).trans c6).trans c7|>.mono fun i hi=>hi.1),O,fun i hi=>(t7 i hi).1⟩
def jr(g:Gm)(z:Int):List Nat:=N1 6 z.toNat++(N1 1 g.D.toNat++(N1 1 g.Z.toNat++(N1 1 g.S.toNat++(N1 2 g.B.toNat++(N1 1 g.P.toNat++N1 1 g.O.toNat)))))
theorem wh(g:Gm)(z:Int):(jr g z).length=13:=by unfold jr;simp only[aE,C9]
theorem VW(hK:1000<K){ll:Nat}(s:Sm g)(m:K7 h b ml ll g es)(hb:HB h){x y:EV}(q0:0<=sq)(q1:sq<=281474976710655):
 Ok (sY K (.agg [x,y,I sq,.ptr b 0]) h) fun v h'=>nM v (ic (jr g sq))/\Ext h h'/\HB h':=by
 simp only[sY,Aa];have Y:Ext h ((h.new (.cells [x,y,I sq,.ptr b 0] 58)).new (.cells (List.replicate 44 (.int .u8 0)) 134)):=(Aw.new _ _).Da _;have g1:((h.new (.cells [x,y,I sq,.ptr b 0] 58)).new (.cells (List.replicate 44 (.int .u8 0)) 134)).get h.next=some (.cells [x,y,I sq,.ptr b 0] 58):=by rw[Az _ (aO _)];exact Ad _ _
 have f1:((h.new (.cells [x,y,I sq,.ptr b 0] 58)).new (.cells (List.replicate 44 (.int .u8 0)) 134)).get (h.next+1)=some (.cells (List.replicate 44 (.int .u8 0)) 134):=Ad _ _;have n1:((h.new (.cells [x,y,I sq,.ptr b 0] 58)).new (.cells (List.replicate 44 (.int .u8 0)) 134)).next=h.next+2:=rfl
 generalize (h.new (.cells [x,y,I sq,.ptr b 0] 58)).new (.cells (List.replicate 44 (.int .u8 0)) 134)=h1 at Y g1 f1 n1⊢;have aa:=Y.hb hb;rw[Ak g1 rfl (v:=.ptr b 0) rfl];refine(P6 (K:=K) (m.frame (Y.get _ (hb _ _ m.map) id) (Y.get _ (hb _ _ m.row) id) (Y.get _ (hb _ _ m.live) id)) aa).Al ?_;rintro _ h2 ⟨rfl,x2,ab⟩;have g2:=x2.at aa g1;have f2:=x2.at aa f1;refine Ok.j4 (xs:=gL g) (Ad _ _) rfl rfl ?_;rw[Ax (l:=[.An,.bool false]) rfl];simp only[Aa];obtain⟨f,e_,x3,e3,n3⟩:=nP h2 (.cells [EV.int .i64 0,.int .i64 0,.int .i64 0,.int .i64 0,.int .i64 0,.int .i64 0] 23) (.cells (gL g) 23);rw[e_];have u:=x3.hb ab;have x4:Ext f (f.new (.cells [.An,.bool false] 222)):=Aw.new _ _;have p4:im (f.new (.cells [.An,.bool false] 222)) f.next [] (fun i=>f.next<=i):=zW (aD _)
 have n4:(f.new (.cells [.An,.bool false] 222)).next=f.next+1:=rfl
 generalize f.new (.cells [.An,.bool false] 222)=h4 at x4 p4 n4⊢;have C:=x4.hb u;have g4:=x4.at u (x3.at ab g2);have f4:=x4.at u (x3.at ab f2);have e4:=x4.at u e3;have l1:=x2.next
 have k1:¬f.next<=h.next:=a_
 have k2:¬f.next<=h.next+1:=a_
 have k3:¬f.next<=h2.next:=a_
 have:=s.d0;have:=s.d1;have:=s.z0;have:=s.z1;have:=s.s0;have:=s.s1;have:=s.b0;have:=s.b1;have:=s.p0;have:=s.p1;have:=s.o0;have:=s.o1;have t4:∀i,h4.next<=i->f.next<=i:=fun i hi=>a_
 rw[Ak g4 rfl (v:=I sq) rfl];refine(R6 hK p4 C t4 (by simp) (w:=6) a_ a_ (v:=sq)).Al ?_;rintro _ h5 ⟨p5,c5,E,t5⟩;have g5:=c5.at C g4 k1;have f5:=c5.at C f4 k2;have e5:=c5.at C e4 k3;rw[Ak e5 rfl (v:=I g.D) rfl];refine(R6 hK p5 E t5 (by simp only[aE,C9,cS];omega) (w:=1) a_ a_ (v:=g.D)).Al ?_;rintro _ h6 ⟨p6,c6,G,t6⟩;have g6:=c6.at E g5 k1;have f6:=c6.at E f5 k2;have e6:=c6.at E e5 k3;rw[Ak e6 rfl (v:=I g.Z) rfl];refine(R6 hK p6 G t6 (by simp only[aE,C9,cS];omega) (w:=1) a_ a_ (v:=g.Z)).Al ?_;rintro _ h7 ⟨p7,c7,J,t7⟩;have g7:=c7.at G g6 k1;have f7:=c7.at G f6 k2;have e7:=c7.at G e6 k3;rw[Ak e7 rfl (v:=I g.S) rfl];refine(R6 hK p7 J t7 (by simp only[aE,C9,cS];omega) (w:=1) a_ a_ (v:=g.S)).Al ?_;rintro _ h8 ⟨p8,c8,U,t8⟩;have g8:=c8.at J g7 k1;have f8:=c8.at J f7 k2;have e8:=c8.at J e7 k3;rw[Ak e8 rfl (v:=I g.B) rfl];refine(R6 hK p8 U t8 (by simp only[aE,C9,cS];omega) (w:=2) a_ a_ (v:=g.B)).Al ?_;rintro _ h9 ⟨p9,c9,V,t9⟩;have g9:=c9.at U g8 k1;have f9:=c9.at U f8 k2;have e9:=c9.at U e8 k3;rw[Ak e9 rfl (v:=I g.P) rfl];refine(R6 hK p9 V t9 (by simp only[aE,C9,cS];omega) (w:=1) a_ a_ (v:=g.P)).Al ?_;rintro _ bz ⟨az,W,o,t10⟩;have a1:=W.at V g9 k1;have f10:=W.at V f9 k2;have wj:=W.at V e9 k3;rw[Ak wj rfl (v:=I g.O) rfl];refine(R6 hK az o t10 (by simp only[aE,C9,cS];omega) (w:=1) a_ a_ (v:=g.O)).Al ?_;rintro _ a2 ⟨a5,p,X,t11⟩;have b5:=p.at o a1 k1;have f11:=p.at o f10 k2;have VX:=p.at o wj k3;have a6:im a2 f.next (jr g sq) (fun i=>f.next<=i):=by
  unfold jr;simp only[<-bQ];exact a5
 refine(zX a6 X (by rw[wh];omega) (by rw[wh];omega)).Al ?_;rintro v a7 ⟨hv,ah,ai⟩;have x5:Ext h h4:=((Y.trans x2).trans x3).trans x4;have p:=((((((c5.trans c6).trans c7).trans c8).trans c9).trans W).trans p);have x:Ext h a7:=(x5.then p fun i a b=>by have:=Y.next;omega).trans ah;exact zZ hv (ah.at X f11) (by simp) x ai (by show h.next<=h.next+1;omega)
def jg(es:List Me)(j:Int):Nat->List Nat
 | 0=>N1 1 j.toNat
 | i+1=>jg es j i++jB (h_ es (2*(j-1)+i)).1
theorem qC(es:List Me)(j:Int):∀i,(jg es j i).length=1+16*i
 | 0=>C9 _ _
 | i+1=>by show(jg es j i++_).length=_;rw[aE,qC es j i,z7];omega
theorem VY(hK:1000<K){h4:Ab}{ll n3 r:Nat}(s:Sm g){l:List EV}(X:l[3]? = some (.ptr b 0)){j:Int}(j0:1<=j)(j1:j<=255)(Y:∀h,Aw (fun i=>n3<=i) h4 h->Ext h0 h)(hr:h0.next<=r)(k1:t<n3)(k2:r<n3)(k3:b<n3)(k4:ml<n3)(k5:ll<n3):∀(n i:Nat) (h:Ab),2-i<n->i<=2->HB h->(∀i,h.next<=i->n3<=i)->Aw (fun i=>n3<=i) h4 h->im h P (jg es j i) (fun i=>n3<=i)->K7 h b ml ll g es->h.get t=some (.cells l 58)->h.get r=some (.cells (List.replicate 44 (.int .u8 0)) 134) ->
 Ok (Xv K n (I j) (.ptr t 0) (.ptr r 0) (.ptr P 0) (I i) h) fun v h'=>nM v (ic (jg es j 2))/\Ext h0 h'/\HB h':=by
 intro n;induction n with
 | zero=>intro i h hn;omega
 | succ n ih=>
  intro i h hn hi hb ht c p m gt J;rw[Xv];simp only[I,Ac,Aa];by_cases ae:i<2
  ·have:decide ((i:Int)<2)=true:=by simp;omega
   simp only[this,Aa,z_];rw[Ak gt rfl X];simp only[Ac];rw[show Cs .i64 (j-1)=j-1 from Ci,show Cs .i64 (2*(j-1))=2*(j-1)from Ci,show Cs .i64 (2*(j-1)+i)=2*(j-1)+i from Ci];refine(pa (K:=K) s m hb (2*(j-1)+i)).Al ?_;rintro _ h2 ⟨rfl,O⟩;have C:=O.hb hb;have hR:=wg m.ok (2*(j-1)+(i:Int));have U:jg es j (i+1)=jg es j i++jB (h_ es (2*(j-1)+(i:Int))).1:=rfl;generalize (h_ es (2*(j-1)+(i:Int))).1=x at hR U⊢;simp only[Aa];refine Ok.mk rfl rfl fun h3 V e3 _=>?_
   have E:=V.hb C;rw[Cd e3 rfl (Ai (n:=6) rfl)];have f:=O.trans V;refine(VV s hR hK (p.chg hb f fun _ _ _=>id) E (fun i hi=>ht i (bN f.next hi)) (by rw[qC];omega)).Al ?_;rintro _ W ⟨p5,c5,G,t5⟩;have a:Aw (fun i=>n3<=i) h W:=(Ext.to f).trans c5;simp only[AA,I,Ac];rw[Ci,show((i:Nat):Int)+1=((i+1:Nat):Int) from a_];refine ih (i+1) W a_ a_ G t5 (c.trans a) ?_ ?_ ?_ ?_
   ·rw[U];exact p5
   ·exact m.frame (a.get _ (hb _ _ m.map) a_) (a.get _ (hb _ _ m.row) a_) (a.get _ (hb _ _ m.live) a_)
   ·exact a.at hb gt a_
   ·exact a.at hb J a_
  ·have:decide ((i:Int)<2)=false:=by simp;omega
   have:i=2:=a_
   subst this;simp only[this,Aa,AB];refine(zX p hb (by rw[qC];omega) (by rw[qC];omega)).Al ?_;rintro v ah ⟨hv,o,u⟩;exact zZ hv (o.at hb J) (by simp) ((Y h c).trans o) u hr
theorem VZ(hK:1000<K){ll:Nat}(s:Sm g)(m:K7 h b ml ll g es)(hb:HB h){x y z:EV}{j:Int}(W:1<=j)(X:j<=255):
 Ok (sZ K (.agg [x,y,z,.ptr b 0]) (I j) h) fun v h'=>nM v (ic (jg es j 2))/\Ext h h'/\HB h':=by
 simp only[sZ,Aa];rw[Ax (l:=[.An,.bool false]) rfl];simp only[Aa];have J:Ext h ((h.new (.cells [x,y,z,.ptr b 0] 58)).new (.cells (List.replicate 44 (.int .u8 0)) 134)):=(Aw.new _ _).Da _;have U:((h.new (.cells [x,y,z,.ptr b 0] 58)).new (.cells (List.replicate 44 (.int .u8 0)) 134)).get h.next=some (.cells [x,y,z,.ptr b 0] 58):=by rw[Az _ (aO _)];exact Ad _ _
 have f1:((h.new (.cells [x,y,z,.ptr b 0] 58)).new (.cells (List.replicate 44 (.int .u8 0)) 134)).get (h.next+1)=some (.cells (List.replicate 44 (.int .u8 0)) 134):=Ad _ _;have n1:((h.new (.cells [x,y,z,.ptr b 0] 58)).new (.cells (List.replicate 44 (.int .u8 0)) 134)).next=h.next+2:=rfl
 rw[show(h.new (Ds.cells [x,y,z,EV.ptr b 0] 58)).next=h.next+1 from rfl];generalize (h.new (.cells [x,y,z,.ptr b 0] 58)).new (.cells (List.replicate 44 (.int .u8 0)) 134)=o at J U f1 n1⊢;have p:=J.hb hb;have C:Ext o (o.new (.cells [.An,.bool false] 222)):=Aw.new _ _;have V:im (o.new (.cells [.An,.bool false] 222)) o.next [] (fun i=>o.next<=i):=zW (aD _)
 have n4:(o.new (.cells [.An,.bool false] 222)).next=o.next+1:=rfl
 generalize o.new (.cells [.An,.bool false] 222)=h4 at C V n4⊢;have f:=C.hb p;have l1:=hb _ _ m.map;have Y:=hb _ _ m.row;have l3:=hb _ _ m.live;have E:=J.trans C;refine(R6 hK V f (fun i hi=>by omega) (by simp) (w:=1) a_ a_ (v:=j)).Al ?_;rintro _ h5 ⟨p5,u,O,t5⟩;refine VY (es:=es) (n3:=o.next) hK s rfl W X (h0:=h) (h4:=h4) (b:=b) (ml:=ml) (ll:=ll) (fun h' c=>E.then c fun i a b=>by omega) (fK _) a_ a_ a_ a_ a_ K 0 h5 a_ a_ O t5 u p5 ?_ (u.at f (C.at p U) a_) (u.at f (C.at p f1) a_);have G:=m.frame (E.get _ l1 id) (E.get _ Y id) (E.get _ l3 id);exact G.frame (u.get _ (f _ _ G.map) a_) (u.get _ (f _ _ G.row) a_) (u.get _ (f _ _ G.live) a_)
section
theorem V_:(Eb TT 93 0).2.1 = [29,30]:=by kernel_rfl
def pf(sq:Int)(es:List Me):Bool:=es.any fun x=>decide (sq<=x.seq)
structure pg(h:Ab)(l0 d0:Nat)(tm:Ba)(b1 b2:Nat)(x y w:EV)(sq:Int)(found:Bool):Prop where
 lp:h.get l0=some (Au TT 93 36 0 tm (if found then .done else .ready) (if found then some .ret else none) d0)
 c1:h.get b1=some (.cells [x,y,I sq,w] 58)
 c2:h.get b2=some (.cells [.bool false] 4)
 hb:HB h
section
variable (H:Ca disp)
include H
theorem WA {e:Nat}(he:2<=e){l0 d0 b1:Nat}{x y w:EV}{i:Int}{z:Me}(U:pg h l0 d0 tm b1 b2 x y w sq false)(t1:tmp tm 1=.ptr b1 0)(t2:tmp tm 2=.ptr b2 0):
 ∃h',Ag TT disp K (e+1) true l0 [I i,.agg z.cells] h=some (.bool (decide (¬sq<=z.seq)),h')/\pg h' l0 d0 tm b1 b2 x y w sq (decide (sq<=z.seq))/\Aw (fun j=>j=l0\/j=b2) h h':=by
 have E:=U.lp;simp only[aT,ak]at E;have p:=E;have g1:=U.c1;have g2:=U.c2;have hb:=U.hb;unfold Au at p;rw[V_]at p;rw[WB H he tm h (I i) _ p,t1,t2];have ag:=hb _ _ E;have u:l0≠b1:=Av E g1 (by simp[Au]);have f:l0≠b2:=Av E g2 (by simp[Au]);have ad:b1≠b2:=Av g1 g2 (by intro y;injection y with _ y;cases y);simp only[AD,Aa];rw[mF (h:=h.new (.cells [EV.int .i64 0,.int .i64 0,.int .i64 0,.int .i64 0,.int .i64 0,.int .i64 0] 87)) (i:=h.next) (o:=0) (n:=6) (v:=.agg z.cells) (l:=[EV.int .i64 0,.int .i64 0,.int .i64 0,.int .i64 0,.int .i64 0,.int .i64 0]) (t:=87) (l':=z.cells) (Ad _ _) rfl rfl (Bl rfl)];obtain⟨C,e_,G,e3,_⟩:=nP h (.cells [EV.int .i64 0,.int .i64 0,.int .i64 0,.int .i64 0,.int .i64 0,.int .i64 0] 87) (.cells z.cells 87);rw[e_];have J:=G.hb hb;have q0:=G.at hb E;have l3:=J _ _ q0;rw[T6 q0];have c4:Aw (fun j=>j=l0\/j=b2) h (C.put l0 (Au TT 93 36 0 tm .busy none d0)):=(Ext.to (S:=fun j=>j=l0\/j=b2) G).Ao (.inl (.inl rfl)) l3 _;have r0:(C.put l0 (Au TT 93 36 0 tm .busy none d0)).get l0=some (Au TT 93 36 0 tm .busy none d0):=Af _ _ _;have V:(C.put l0 (Au TT 93 36 0 tm .busy none d0)).get b1=some (.cells [x,y,I sq,w] 58):=by rw[Ae _ u];exact G.at hb g1
 have W:(C.put l0 (Au TT 93 36 0 tm .busy none d0)).get b2=some (.cells [.bool false] 4):=by rw[Ae _ f];exact G.at hb g2
 have re:(C.put l0 (Au TT 93 36 0 tm .busy none d0)).get h.next=some (.cells z.cells 87):=by rw[Ae _];exact e3
 have a:HB (C.put l0 (Au TT 93 36 0 tm .busy none d0)):=J.put l3 _;generalize C.put l0 (Au TT 93 36 0 tm .busy none d0)=h4 at c4 r0 V W re a⊢;have X:=a _ _ r0;have O:=a _ _ W;simp only[X7,Aa];rw[Ak re rfl (v:=I z.seq) rfl,Ak V rfl (v:=I sq) rfl];simp only[I,Ac];by_cases Y:sq<=z.seq
 ·have e1:decide (z.seq≥sq)=true:=aQ Y
  simp only[e1,Aa,Y,aC,aA,aB];rw[mF (o:=0) (n:=1) (v:=.bool false) (l':=[.bool false]) W rfl rfl rfl,Pf (by rw[Ae _ (cn f)];exact r0)];exact⟨_,rfl,⟨Af _ _ _,by rw[Ae _ u,Ae _ (cn ad)];exact V,by rw[Ae _ f];exact Af _ _ _,(a.put O _).put (by rw[Ab.Nz];exact X) _⟩,(c4.Ao (.inl (.inr rfl)) O _).Ao (.inl (.inl rfl)) (by rw[Ab.Nz];exact X) _⟩
 ·have e1:decide (z.seq≥sq)=false:=aS Y
  simp only[e1,Aa,Y,aH,aA,aB];rw[Pf r0];exact⟨_,rfl,⟨Af _ _ _,by rw[Ae _ u];exact V,by rw[Ae _ f];exact W,a.put X _⟩,c4.Ao (.inl (.inl rfl)) X _⟩
theorem WC {e:Nat}(he:3<=e){l0 d0 b1:Nat}{x y w:EV}(hn:es.length<=256)(t1:tmp tm 1=.ptr b1 0)(t2:tmp tm 2=.ptr b2 0):∀(m i:Nat) (h:Ab),es.length-i<m->i<=es.length->pg h l0 d0 tm b1 b2 x y w sq false ->
 h.get ml=some (.cells (es.map Me.cells).flatten 87)->ml≠l0->ml≠b2 ->
 Ok (Ce (Ag TT disp K e false) (Ag TT disp K e true) K m (.U5 l0) (.slice ml 0 es.length es.length false) (I es.length) (I i) h) fun _ h'=>pg h' l0 d0 tm b1 b2 x y w sq (pf sq (es.drop i))/\Aw (fun j=>j=l0\/j=b2) h h':=by
 intro m;induction m with
 | zero=>intro i h hm;omega
 | succ m V=>
  intro i h hm hi f U p u;rw[Ce];simp only[I,Ac,Aa];by_cases o:i<es.length
  ·have:decide ((i:Int)<(es.length:Int))=true:=by simp;omega
   simp only[this,Aa,F2];rw[Md o,bI,Cd U rfl (sQ es o)];rw[show pf sq (es.drop i)=(decide (sq<=es[i].seq)||pf sq (es.drop (i+1))) by rw[cv o];rfl];generalize es[i]=z
   try simp only[Aa]
   refine Ok.mk rfl rfl fun J C e3 _=>?_
   have O:=C.hb f.hb;rw[Cd e3 rfl (Ai (n:=6) rfl)];obtain⟨e,rfl⟩:=d_ e;have W:P0 (Ag TT disp K (e+1) false) (Ag TT disp K (e+1) true) (.U5 l0) [.int .i64 (i:Int),.agg z.cells] J=Ag TT disp K (e+1) true l0 [I i,.agg z.cells] J:=rfl;obtain⟨h4,X,E,c4⟩:=WA (K:=K) H (e:=e) a_ (i:=i) (z:=z) (⟨C.at f.hb f.lp,C.at f.hb f.c1,C.at f.hb f.c2,O⟩:pg J l0 d0 tm b1 b2 x y w sq false) t1 t2;rw[W,X,Aq];have c:Aw (fun j=>j=l0\/j=b2) h h4:=(Ext.to C).trans c4;by_cases G:sq<=z.seq
   ·simp only[G,aB]at E
    simp only[G,aC,aA,Aa,aB,Bool.true_or];exact .ret ⟨E,c⟩
   ·simp only[G,aA]at E
    simp only[G,aH,aB,aA,Aa,Bool.false_or,Fy,Ac];rw[Ci,show((i:Nat):Int)+1=((i+1:Nat):Int) from a_];refine(V (i+1) h4 a_ a_ E (c.at f.hb U fun y=>y.elim p u) p u).mono ?_;rintro _ h5 ⟨a,Y⟩;exact⟨a,c.trans Y⟩
  ·have:decide ((i:Int)<(es.length:Int))=false:=by simp;omega
   have e0:es.drop i = []:=List.drop_eq_nil_of_le a_;rw[e0];simp only[this,Aa];exact .ret ⟨f,Aw.refl _⟩
omit H in
theorem WD {l:Int}(h:Ab):Tn K (I v) (I l) h=some (.bool (decide (1<=v)&&decide (v<=l)),h):=by
 simp only[Tn,AE,I,Ac,Aa];by_cases h1:1<=v<;>by_cases h2:v<=l<;>simp[h1,h2,Aa]
end
end
section
def snR(x y z:Int)(es:List Me):Bool:=(decide (1<=x)&&decide (x<=281474976710655))&&((decide (1<=y)&&decide (y<=4294967295))&&((decide (1<=z)&&decide (z<=281474976710655))&&!pf z es))
theorem pj {a:Ab}{b:Bool}(f:a.get q=some (.cells [.bool b] 4)):Gi TT [.c (.ptr q 0) 4] a=some (.bool b,a):=by
 have hr:Jn a q 0 1=some [.bool b]:=by unfold Jn;rw[f];rfl
 unfold Gi;simp only[j5,show TT.size 4=some 1 by kernel_rfl,show TT.agg 4=some false by kernel_rfl,hr]
section
variable (H:Ca disp)
include H
theorem WE {e:Nat}(he:4<=e)(hK:1000<K)(w1:Ext h0 h1){ll b1:Nat}(s:Sm g)(m:K7 h1 b ml ll g es)(f:HB h1)(l1:h0.next<=b1)(l2:h0.next<=b2)(lm:ml<h0.next){x y:EV}{z:Int}(g1:h1.get b1=some (.cells [x,y,I z,.ptr b 0] 58))(f1:h1.get b2=some (.cells [.bool false] 4))(t1:tmp tm 1=.ptr b1 0)(t2:tmp tm 2=.ptr b2 0):
 Ok (V9 (Ag TT disp K e false) (Ag TT disp K e true) K tm (.ptr b1 0) (.ptr b2 0) h1 []) fun v h'=>v=.bool (!pf z es)/\Ext h0 h'/\HB h':=by
 have:=s.b0;have:=s.b1;have hlen:=m.len;simp only[V9,Aa];rw[Ak g1 rfl (v:=.ptr b 0) rfl];simp only[Xh,Aa,Fg];rw[Ak m.map rfl (v:=.slice ml 0 g.B.toNat g.B.toNat false) rfl,<-hlen];simp only[Aa];obtain⟨h2,e_,x2,q2,n2⟩:=nW h1 (.cells [.slice ml 0 es.length es.length false] 145);rw[e_];have G:=x2.hb f;have J:tmp (((tm.put 26 (some (.ptr b1 3))).put 27 (some (.ptr b 0))).put 28 (some (.func 201 [] [.ptr h1.next 0]))) 1=.ptr b1 0:=by simp only[F1,reduceIte,Nat.reduceEqDiff];exact t1
 have O:tmp (((tm.put 26 (some (.ptr b1 3))).put 27 (some (.ptr b 0))).put 28 (some (.func 201 [] [.ptr h1.next 0]))) 2=.ptr b2 0:=by simp only[F1,reduceIte,Nat.reduceEqDiff];exact t2
 generalize (((tm.put 26 (some (.ptr b1 3))).put 27 (some (.ptr b 0))).put 28 (some (.func 201 [] [.ptr h1.next 0])))=tm at J O⊢;obtain⟨e,rfl⟩:=d_ e;refine Ok.range ?_;have W:Ext h2 (Bn TT 93 36 0 tm h2):=Ga;have k0:(Bn TT 93 36 0 tm h2).get h2.next=some (.deferred true):=Gw
 have k1:(Bn TT 93 36 0 tm h2).get (h2.next+1)=some (Au TT 93 36 0 tm .ready none h2.next):=F3;generalize Bn TT 93 36 0 tm h2=X at W k0 k1⊢;have u:=W.hb G;have p:Ext h1 X:=x2.trans W;have aw:=f _ _ g1;have ax:=f _ _ f1;have ay:=f _ _ m.row;rw[Jy H (cO _)];simp only[Gz,dr];rw[Ak (W.at G q2) rfl (v:=.slice ml 0 es.length es.length false) rfl];simp only[Aa];have I3:pg X (h2.next+1) h2.next tm b1 b2 x y (.ptr b 0) z false:=⟨k1,p.at f g1,p.at f f1,u⟩
 refine(WC (K:=K) H (e:=e) a_ (es:=es) (ml:=ml) a_ J O K 0 X a_ a_ I3 (p.at f m.row) a_ a_).mono ?_;rw[dK];rintro _ h4 ⟨U,c4⟩;have a1:=w1.next
 have Y:=U.hb _ _ U.lp;have k2:h2.next<X.next:=u _ _ k0
 have kd:h4.get h2.next=some (.deferred true):=c4.at u k0 a_
 have x4:Ext h0 h4:=(w1.trans p).then c4 fun i hi a=>a_
 have ne:h2.next≠b2:=a_
 have lp:=U.lp;have c2:=U.c2;have V:=U.hb;revert lp;generalize pf z es=bb;intro lp;cases bb with
 | true=>
  simp only[bM]at lp;refine .inr ⟨lp,?_⟩;have o:HB (h4.put (h2.next+1) (Au TT 93 36 0 tm .exhausted (some .ret) h2.next)):=V.put Y _;refine Ok.unwind (cj.2 ⟨by simp,cy⟩) (fun d hd=>by rw[aP]at hd;subst hd;rw[Ae _];exact kd) o fun h6 C _=>?_
  have g6:h6.get b2=some (.cells [.bool false] 4):=Aw.at C o (by rw[Ae _];exact c2) (by rw[aP];omega);rw[pj g6];exact .ret ⟨rfl,(x4.Ao (.inr a_) Y _).then C fun i hi a=>by rw[aP]at hi;omega,C.hb o⟩
 | false=>
  simp only[aT,ak]at lp;refine .inl ⟨lp,?_⟩;simp only[Wa,dr];have o:HB (h4.put (h2.next+1) (Au TT 93 36 0 tm .exhausted none h2.next)):=V.put Y _;have g5:(h4.put (h2.next+1) (Au TT 93 36 0 tm .exhausted none h2.next)).get b2=some (.cells [.bool false] 4):=by rw[Ae _];exact c2
  have x5:Ext h0 (h4.put (h2.next+1) (Au TT 93 36 0 tm .exhausted none h2.next)):=x4.Ao (.inr a_) Y _;have d5:(h4.put (h2.next+1) (Au TT 93 36 0 tm .exhausted none h2.next)).get h2.next=some (.deferred true):=by rw[Ae _];exact kd
  generalize h4.put (h2.next+1) (Au TT 93 36 0 tm .exhausted none h2.next)=h5 at o g5 x5 d5⊢;have l6:=o _ _ g5;refine Ok.Z7 g5 rfl rfl (by show 0<1;decide) ?_;have E:HB (h5.put b2 (.cells ([EV.bool false].set 0 (.bool true)) 4)):=o.put l6 _;refine Ok.unwind (cj.2 ⟨by simp,cy⟩) (fun d hd=>by rw[aP]at hd;subst hd;rw[Ae _ (cn ne)];exact d5) E fun h6 C _=>?_
  have g6:h6.get b2=some (.cells [.bool true] 4):=Aw.at C E (Af _ _ _) (by rw[aP];exact cn ne);rw[pj g6];exact .ret ⟨rfl,(x5.Ao (.inr l2) l6 _).then C fun i hi a=>by rw[aP]at hi;omega,C.hb E⟩
end
end
section
theorem wk {l:Int}(h:Ab):Tn K (.int .i64 v) (.int .i64 l) h=some (.bool (decide (1<=v)&&decide (v<=l)),h):=WD h
theorem WG(f1:h1.get b2=some (.cells [.bool false] 4))(w1:Ext h0 h1)(a:HB h1)(f:h0.next<=b2):Ok (Vz 1 (.ptr b2 0) (.bool false) h1 fun h=>Dt [] h fun h=>Gi TT [.c (.ptr b2 0) 4] h) fun v h'=>v=.bool false/\Ext h0 h'/\HB h':=by
 have l:=a _ _ f1;refine Ok.Z7 f1 rfl rfl (by show 0<1;decide) ?_;show Ok (Gi TT [.c (.ptr b2 0) 4] (h1.put b2 (.cells [.bool false] 4))) _;rw[pj (b:=false) (Af _ _ _)];exact .ret ⟨rfl,w1.Ao (.inr f) l _,a.put l _⟩
section
variable (H:Ca disp)
include H
theorem wm(hd:5<=d)(hK:1000<K){ll:Nat}(s:Sm g)(m:K7 h b ml ll g es)(hb:HB h)(x y z:Int):
 Ok (Ag TT disp K d false 93 [.agg [I x,I y,I z,.ptr b 0]] h) fun v h'=>v=.bool (snR x y z es)/\Ext h h'/\HB h':=by
 obtain⟨e,rfl⟩:=d_ d;rw[WH H a_];simp only[AF,Aa];have w1:Ext h ((h.new (.cells [I x,I y,I z,.ptr b 0] 58)).new (.cells [.bool false] 4)):=(Aw.new _ _).Da _;have a:((h.new (.cells [I x,I y,I z,.ptr b 0] 58)).new (.cells [.bool false] 4)).get h.next=some (.cells [I x,I y,I z,.ptr b 0] 58):=by rw[Az _ (aO _)];exact Ad _ _
 have f1:((h.new (.cells [I x,I y,I z,.ptr b 0] 58)).new (.cells [.bool false] 4)).get (h.next+1)=some (.cells [.bool false] 4):=Ad _ _;have n1:((h.new (.cells [I x,I y,I z,.ptr b 0] 58)).new (.cells [.bool false] 4)).next=h.next+2:=rfl
 rw[show(h.new (Ds.cells [I x,I y,I z,EV.ptr b 0] 58)).next=h.next+1 from rfl];generalize (h.new (.cells [I x,I y,I z,.ptr b 0] 58)).new (.cells [.bool false] 4)=h1 at w1 a f1 n1⊢;have f:=w1.hb hb;have no:=WG (h0:=h) f1 w1 f (fK _);have o:Fa (.tuple []) false=false/\Fa (.tuple []) true=false:=⟨rfl,rfl⟩;unfold snR;rw[Ak a rfl (v:=.ptr b 0) rfl,show ∀k:EV->R,Jk iD (bin TT .eql 55) (.ptr b 0) .Bz k=k (.bool false)from fun k=>by kernel_rfl];simp only[Aa,Ac];rw[Ak a rfl (v:=I x) rfl]
 try simp only[I]
 rw[wk,Aq];cases(decide (1<=x)&&decide (x<=281474976710655))with
 | false=>
  simp only[Aa,Ac,Qf,Mv,Jp,bB];exact no
 | true=>
 simp only[Aa,Ac,Qf,bF];rw[Ak a rfl (v:=I y) rfl]
 try simp only[I]
 rw[wk,Aq];cases(decide (1<=y)&&decide (y<=4294967295))with
 | false=>
  simp only[Aa,Ac,Mv,Jp,bB];exact no
 | true=>
 simp only[Aa,Ac,Mv,bF];rw[Ak a rfl (v:=I z) rfl]
 try simp only[I]
 rw[wk,Aq];cases(decide (1<=z)&&decide (z<=281474976710655))with
 | false=>
  simp only[Aa,Ac,Jp,bB];exact no
 | true=>
 simp only[Aa,Ac,Jp,bF];have p:=m.frame (w1.get _ (hb _ _ m.map) id) (w1.get _ (hb _ _ m.row) id) (w1.get _ (hb _ _ m.live) id);exact WE H a_ hK w1 s p f (aD _) (fK _) (hb _ _ m.row) a f1 (by simp only[F1,reduceIte,Nat.reduceEqDiff]) (by simp only[F1,reduceIte,Nat.reduceEqDiff])
end
end
section
def iK(h:Ab)(s:EV)(q:Nat)(e:TypeId)(sz len:Nat)(l:List EV):Prop:=
 Bu h s q e sz len l\/(len=1/\s=.slice q 0 1 1 false/\h.get q=some (.cells l e)/\l.length=sz)
theorem iK.frame{s:EV}{len:Nat}{l:List EV}(r:iK h s q e sz len l)(g:0<len->h'.get q=h.get q):iK h' s q e sz len l:=by
 rcases r with r|⟨a,b,c,d⟩
 ·exact .inl (r.frame g)
 ·exact .inr ⟨a,b,by rw[g a_];exact c,d⟩
theorem iK.lt{s:EV}{len:Nat}{l:List EV}(r:iK h s q e sz len l)(hb:HB h)(f:0<len):q<h.next:=by
 rcases r with r|⟨a,b,c,d⟩
 ·exact hb _ _ (r.block f)
 ·exact hb _ _ c
theorem WI{s v:EV}{len:Nat}{l z:List EV}(r:iK h s q e sz len l)(hb:HB h)(f:v.plain=true)(o:z.length=sz)(a:v.cells.length=sz)(hs:sz<=65536)(C:len<=65535)
 (p:∀h',Bu h' (.slice (h.next+1) 0 (len+1) (len+1) true) (h.next+1) e sz (len+1) (l++v.cells)->h'.next=h.next+2->Aw (fun i=>0<len/\i=q) h h'->Ok (k (.slice (h.next+1) 0 (len+1) (len+1) true) h') Q) :
 Ok (Al (By z e sz 1 [(0,v)] h) fun w h=>Al (Ef e sz s w h) k) Q:=by
 rcases r with r|⟨rfl,rfl,g,ll⟩
 ·exact Kv r hb f o a hs a_ p
 ·rw[Wq f o a hs,Aq]
  have u:(h.new (.cells v.cells e)).get q=some (.cells l e):=by rw[Az _ (hb _ _ g)];exact g
  have c1:=Yx (sz:=sz) (Ad h (.cells v.cells e)) a;have c2:=Yx (sz:=sz) u ll;have e1:Ef e sz (.slice q 0 1 1 false) (.slice h.next 0 1 1 false) (h.new (.cells v.cells e))=some (.slice (h.next+1) 0 2 2 true,(h.new (.cells v.cells e)).new (.vec (l++v.cells) e sz)):=by
   unfold Ef;simp only[lenOf,G6,c1,c2,qD];rfl
  rw[e1,Aq];refine p _ (.inr ⟨a_,rfl,Ad _ _,by rw[aE,ll,a];omega⟩) rfl ((Aw.new _ _).Da _)
def nN(L:List Fr):Prop:=∀f∈L,f.Wf/\hQ f=true
theorem AG(a b c d e:EV){x y:List EV}(h:x.length=y.length):Nl ([a,b,c,d,e]++x) 5 y=some ([a,b,c,d,e]++y):=by
 rw[s_ (by rw[aE,h];exact aD _)];have:([a,b,c,d,e]++x).drop (5+y.length) = []:=dG (by rw[aE,h];exact aD _);rw[this,cW];rfl
theorem WJ {x:Int}{l:List Nat}(a:l.length=44):iT (Df [(0,1),(1,1),(2,1),(3,1),(4,1),(5,44)]) [(0,EV.int .i64 4),(1,I zn),(3,I y),(4,I x),(5,.agg (Bh l))] (List.replicate 5 (EV.int .i64 0)++List.replicate 44 (EV.int .u8 0))=some (Fr.mk 4 zn 0 y x l).cells:=by
 show Bb (Nat.beq (Fw (Bh l)) 44) (oB (fun z=>some z) (Nl ([I 4,I zn,I 0,I y,I x]++List.replicate 44 (.int .u8 0)) 5 (Bh l))) none=_;rw[Be,Bf,a,AG _ _ _ _ _ (by rw[Bf,a,bW])];rfl
theorem wo {x z:Int}(h:snR x y z es=true):(1<=x/\x<=281474976710655)/\(1<=y/\y<=4294967295)/\1<=z/\z<=281474976710655:=by
 unfold snR at h;simp only[bD,av]at h;exact⟨h.1,h.2.1,h.2.2.1.1,h.2.2.1.2⟩
def iU(g:Gm)(es:List Me)(x y z zn:Int)(i:Nat):Fr:=if i=0 then⟨4,zn,0,y,x,ic (jr g z)⟩else⟨5,zn,i,y,x,ic (jg es i 2)⟩
def O9(g:Gm)(es:List Me)(x y z zn:Int)(n:Nat):List Fr:=(List.range n).map (iU g es x y z zn)
theorem Wz(g:Gm)(es:List Me)(x y z zn:Int)(n:Nat):(O9 g es x y z zn n).length=n:=by unfold O9;simp
theorem WK(g:Gm)(es:List Me)(x y z zn:Int)(n:Nat):O9 g es x y z zn (n+1)=O9 g es x y z zn n++[iU g es x y z zn n]:=by unfold O9;rw[cu,bZ];rfl
section
variable (H:Ca disp)
theorem WL(hK:1000<K){c r:Ah}{ll f:Nat}(s:Sm g)(m:K7 h0 b ml ll g es)(o:HB h0){x z:Int}(x0:1<=x)(x1:x<=281474976710655)(y0:1<=y)(y1:y<=4294967295)(z0:0<=zn)(z1:zn<=65535)(lt:h0.next<=t)(lf:h0.next<=f)(tf:t≠f):
 ∀(n i:Nat) (h:Ab) (v:EV) (q:Nat) (L:List Fr) (F:Fr),g.parts.toNat-i<n->1<=i->i<=g.parts->Ext h0 h->HB h->h.get t=some (.cells [I x,I y,I z,.ptr b 0] 58)->h.get f=some (.cells F.cells 136)->F.Wf->F.Am=zn->F.As=y->F.seq=x->L=O9 g es x y z zn i->nN L->iK h v q 136 49 i (L.map Fr.cells).flatten->h0.next<=q->q≠t->q≠f ->
 Ok (S8 c r K n (.ptr t 0) (.ptr f 0) v (I i) h) fun w h'=>∃v q L,w=.tuple [v,I 0]/\iK h' v q 136 49 L.length (L.map Fr.cells).flatten/\h0.next<=q/\L=O9 g es x y z zn g.parts.toNat/\nN L/\Ext h0 h'/\HB h':=by
 have:=s.b0;have:=s.b1;have hp:2<=g.parts/\g.parts<=200:=by unfold Gm.parts;omega
 intro n;induction n with
 | zero=>intro i h v q L F hn;omega
 | succ n ih=>
  intro i h v q L F hn i1 hi V hb gt gf w fz fe fs hL hI row lq qt qf;rw[S8];simp only[Aa];rw[Ak gt rfl (v:=.ptr b 0) rfl];have mh:=m.frame (V.get _ (o _ _ m.map) id) (V.get _ (o _ _ m.row) id) (V.get _ (o _ _ m.live) id);refine(P6 (K:=K) mh hb).Al ?_;rintro _ h2 ⟨rfl,x2,bk⟩;rw[tc s,Aq];have O:Ext h (h2.new (.cells (gL g) 23)):=x2.Da _;generalize h2.new (.cells (gL g) 23)=h3 at O⊢;have u:=O.hb hb;have W:=O.at hb gt;have au:=O.at hb gf;have C:=row.frame (h':=h3) fun y=>O.get _ (row.lt hb y) id
  simp only[I,Ac];by_cases X:(i:Int)<g.parts
  ·simp only[X,aB,Aa,AH]
   rw[Cv W rfl,Ai (n:=4) rfl];simp only[Aa];have E:Ext h0 h3:=V.trans O;refine(VZ hK s (m.frame (E.get _ (o _ _ m.map) id) (E.get _ (o _ _ m.row) id) (E.get _ (o _ _ m.live) id)) u a_ a_).Al ?_;rintro _ h4 ⟨⟨rfl,hl,hu⟩,x4,aw⟩;have eF:iU g es x y z zn i=Fr.mk 5 zn i y x (ic (jg es i 2)):=aK a_;generalize ic (jg es (i:Int) 2)=l at hl hu eF⊢;have Y:=x4.at u au;have l4:=aw _ _ Y;have ay:Ext h0 h4:=E.trans x4;have aa:=C.frame (h':=h4) fun y=>x4.get _ (C.lt u y) id
   have az:=x4.at u W;refine Ok.Z7 Y rfl rfl (by rw[Fr.Ay w];decide) ?_;refine Ok.Z7 (Af _ _ _) rfl rfl (by rw[bY,Fr.Ay w];decide) ?_;have e5:((F.cells.set 0 (.int .i64 5)).set 2 (.int .i64 (i:Int))) = [I 5,I F.Am,I i,I F.As,I F.seq]++Bh F.body:=rfl;rw[e5];refine Ok.st ([I 5,I F.Am,I i,I F.As,I F.seq]++Bh l) (Af _ _ _) rfl (by show Fw (Bh l)=44;rw[Be,Bf,hl]) (AG (y:=Bh l) _ _ _ _ _ (by rw[Bf,Bf,w.len,hl])) ?_;have x5:Ext h0 (((h4.put f (.cells (F.cells.set 0 (.int .i64 5)) 136)).put f (.cells ([I 5,I F.Am,I i,I F.As,I F.seq]++Bh F.body) 136)).put f (.cells ([I 5,I F.Am,I i,I F.As,I F.seq]++Bh l) 136)):=((ay.Ao (.inr lf) l4 _).Ao (.inr lf) l4 _).Ao (.inr lf) l4 _;have G:(((h4.put f (.cells (F.cells.set 0 (.int .i64 5)) 136)).put f (.cells ([I 5,I F.Am,I i,I F.As,I F.seq]++Bh F.body) 136)).put f (.cells ([I 5,I F.Am,I i,I F.As,I F.seq]++Bh l) 136)).get f=some (.cells (Fr.mk 5 F.Am i F.As F.seq l).cells 136):=Af _ _ _;have U:(((h4.put f (.cells (F.cells.set 0 (.int .i64 5)) 136)).put f (.cells ([I 5,I F.Am,I i,I F.As,I F.seq]++Bh F.body) 136)).put f (.cells ([I 5,I F.Am,I i,I F.As,I F.seq]++Bh l) 136)).get t=some (.cells [I x,I y,I z,.ptr b 0] 58):=by
    rw[Ae _ (cn tf),Ae _ (cn tf),Ae _ (cn tf)];exact az
   have J:=aa.frame (h':=(((h4.put f (.cells (F.cells.set 0 (.int .i64 5)) 136)).put f (.cells ([I 5,I F.Am,I i,I F.As,I F.seq]++Bh F.body) 136)).put f (.cells ([I 5,I F.Am,I i,I F.As,I F.seq]++Bh l) 136))) fun y=>by
    rw[Ae _ (cn qf),Ae _ (cn qf),Ae _ (cn qf)]
   generalize (((h4.put f (.cells (F.cells.set 0 (.int .i64 5)) 136)).put f (.cells ([I 5,I F.Am,I i,I F.As,I F.seq]++Bh F.body) 136)).put f (.cells ([I 5,I F.Am,I i,I F.As,I F.seq]++Bh l) 136))=h5 at x5 G U J⊢;have p:=x5.hb o;have w5:(Fr.mk 5 F.Am i F.As F.seq l).Wf:=⟨hl,hu⟩;rw[Cd G rfl (Ai (Fr.Ay w5))];refine WI J p rfl rfl (Fr.Ay w5) a_ a_ ?_;intro h6 ab n6 c6;simp only[AJ,I,Ac];rw[Ci,show((i:Nat):Int)+1=((i+1:Nat):Int) from a_];have t5:=p _ _ U;have f5:=p _ _ G;refine ih (i+1) h6 _ (h5.next+1) (L++[Fr.mk 5 F.Am i F.As F.seq l]) _ a_ a_ a_ (x5.then c6 fun j hj a=>by omega) (c6.hb p) (c6.at p U fun y=>qt y.2.symm) (c6.at p G fun y=>qf y.2.symm) w5 fz fe fs (by rw[WK,hL,eF,fz,fe,fs]) ?_ ?_ (by have:=x5.next;omega) a_ a_
   ·intro fr a1
    rcases bO.1 a1 with y|y
    ·exact hI fr y
    ·rw[aP]at y
     subst y;refine⟨w5,?_⟩;simp only[hQ,wi,bD,av,fz,fe,fs];omega
   ·rw[bZ,cm,show([Fr.mk 5 F.Am i F.As F.seq l].map Fr.cells).flatten=(Fr.mk 5 F.Am i F.As F.seq l).cells from cW _];exact .inl ab
  ·simp only[X,aA,Aa,AK]
   have eL:L.length=i:=by rw[hL,Wz]
   exact .ret ⟨v,q,L,rfl,by rw[eL];exact C,lq,by rw[hL];congr 1;omega,hI,V.trans O,u⟩
include H
theorem td(hd:7<=d)(hK:1000<K){ll:Nat}(hr:rtB g=true)(m:K7 h b ml ll g es)(hb:HB h){x z:Int}(hR:snR x y z es=true)(n0:0<=zn)(n1:zn<g.D*g.Z):
 Ok (Ag TT disp K d false 63 [.agg [I x,I y,I z,.ptr b 0],I zn] h) fun w h'=>∃v q L,w=.tuple [v,I 0]/\iK h' v q 136 49 L.length (L.map Fr.cells).flatten/\h.next<=q/\L=O9 g es x y z zn g.parts.toNat/\nN L/\Ext h h'/\HB h':=by
 have s:=No hr;obtain⟨⟨x0,x1⟩,⟨y0,y1⟩,z0,z1⟩:=wo hR;have:=s.b0;have:=s.b1;have:=s.s0;have:=s.d0;have:=s.d1;have:=s.z0;have:=s.z1;obtain⟨m0,m1⟩:=Rp (a:=g.D) (b:=g.Z) (A:=8) (B:=64);obtain⟨e,rfl⟩:=d_ d;rw[AL H];simp only[wq,Aa];obtain⟨h1,e_,w1,g1,a1⟩:=nW h (.cells [I x,I y,I z,.ptr b 0] 58);rw[e_];have u:=w1.hb hb;have C:=m.frame (w1.get _ (hb _ _ m.map) id) (w1.get _ (hb _ _ m.row) id) (w1.get _ (hb _ _ m.live) id);rw[Cv g1 rfl,Ai (n:=4) rfl];simp only[Aa];refine(wm (K:=K) H (d:=e) a_ hK s C u x y z).Al ?_;rw[hR];rintro _ h2 ⟨rfl,U,E⟩;have g2:=U.at u g1;simp only[Aa,Ac];rw[Ak g2 rfl (v:=.ptr b 0) rfl];have W:=C.frame (U.get _ (u _ _ C.map) id) (U.get _ (u _ _ C.row) id) (U.get _ (u _ _ C.live) id);refine(P6 (K:=K) W E).Al ?_;rintro _ h3 ⟨rfl,x3,X⟩;refine(tg (K:=K) (g:=g) X zn 0).Al ?_;rintro _ h4 ⟨rfl,x4⟩;have hh:Yj g zn 0=true:=by
  simp only[Yj,hr,wi,bF,bD,av];omega
 rw[hh];have G:=x4.hb X;simp only[Aa,Yq,AM];have o:Ext h2 h4:=x3.trans x4;have g4:=o.at E g2;have l4:=G _ _ g4;have m4:=W.frame (o.get _ (E _ _ W.map) id) (o.get _ (E _ _ W.row) id) (o.get _ (E _ _ W.live) id);rw[I6 l4,Ak g4 rfl (v:=I y) rfl]
 try simp only[Aa,Ar]
 rw[I6 l4,Ak g4 rfl (v:=I x) rfl]
 try simp only[Aa,Ar]
 rw[I6 l4,Cv g4 rfl,Ai (n:=4) rfl]
 try simp only[Aa,Ar]
 refine Ok.bE (P:=fun v h'=>nM v (ic (jr g z))/\Ext h4.lift h') ((VW hK s (m4.frame (Bv _ _) (Bv _ _) (Bv _ _)) (Cz G) a_ a_).mono fun _ _ a=>⟨a.1,a.2.1⟩) (fun _ _ p=>p.2) ?_;rintro _ a7 h5 ⟨⟨rfl,hl,hu⟩,_⟩ _ x5;have eF:iU g es x y z zn 0=Fr.mk 4 zn 0 y x (ic (jr g z)):=rfl;generalize ic (jr g z)=l at hl hu eF⊢;have J:=x5.hb G;have g5:=x5.at G g4;have w5:(Fr.mk 4 zn 0 y x l).Wf:=⟨hl,hu⟩;rw[Ax (l:=(Fr.mk 4 zn 0 y x l).cells) ?_]
 ·simp only[Aa,Ar]
  rw[Hc];refine Ok.j4 (xs:=(Fr.mk 4 zn 0 y x l).cells) (Ad _ _) (by simp) (Fr.Ay w5) ?_;obtain⟨V,e_,x6,g6,n6⟩:=nP h5 (.cells (List.replicate 5 (EV.int .i64 0)++List.replicate 44 (.int .u8 0)) 136) (.cells (Fr.mk 4 zn 0 y x l).cells 136);rw[e_];have O:=x6.hb J;rw[Cv g6 rfl,Ai (Fr.Ay w5)];simp only[Aa];rw[Wq (v:=.agg (Fr.mk 4 zn 0 y x l).cells) rfl (by simp) (Fr.Ay w5),Aq];have x7:Ext V (V.new (.cells (Fr.mk 4 zn 0 y x l).cells 136)):=Aw.new _ _;have ah:Ext h V:=(((w1.trans U).trans o).trans x5).trans x6;have ai:Ext h (V.new (.cells (Fr.mk 4 zn 0 y x l).cells 136)):=ah.trans x7;have k1:=(w1.trans U).next
  have k2:=o.next
  have k3:=x5.next
  have lg:=J _ _ g5;refine WL hK s m hb x0 x1 y0 y1 n0 a_ (aD _) (f:=h5.next) a_ a_ K 1 _ (.slice V.next 0 1 1 false) V.next [Fr.mk 4 zn 0 y x l] (Fr.mk 4 zn 0 y x l) (by unfold Gm.parts;omega) (aD _) (by unfold Gm.parts;omega) ai (x7.hb O) (x7.at O (x6.at J g5)) (x7.at O g6) w5 rfl rfl rfl (by rw[<-eF];rfl) ?_ (.inr ⟨rfl,rfl,?_,?_⟩) a_ a_ a_
  ·intro fr Y
   rw[aP]at Y;subst Y;refine⟨w5,?_⟩;simp only[hQ,wi,bD,av];omega
  ·rw[show([Fr.mk 4 zn 0 y x l].map Fr.cells).flatten=(Fr.mk 4 zn 0 y x l).cells from cW _];exact Ad _ _
  ·rw[show([Fr.mk 4 zn 0 y x l].map Fr.cells).flatten=(Fr.mk 4 zn 0 y x l).cells from cW _];exact Fr.Ay w5
 ·exact WJ hl
end
end
section
def Asm(X:List (List EV)):Prop:=∀x∈X,x.length=64/\U8 x
theorem iK.ix{s:EV}{len:Nat}{l:List EV}(r:iK h s q e sz len l)(hj:j<len)(k:EV->R):Ve sz s (I j) k=k (.ptr q (j*sz)):=by
 rcases r with r|⟨rfl,rfl,c,d⟩
 ·exact r.ix hj .i64 k
 ·unfold I;rw[Md hj,bI]
theorem iK.j6{s:EV}{len:Nat}{l x:List EV}(r:iK h s q e sz len l)(f:0<len){o:Nat}(a:Ke l o n=some x)(k:EV->R):Oo n (.ptr q o) h k=k (.agg x):=by
 rcases r with r|⟨rfl,rfl,c,d⟩
 ·exact Cd (r.block f) rfl a
 ·exact Cd c rfl a
theorem iK.Fz{s:EV}{len:Nat}{l:List EV}(r:iK h s q e sz len l)(k:EV->R):Ev.Fz s k=k (I len):=by
 rcases r with r|⟨rfl,rfl,c,d⟩
 ·exact r.Fz k
 ·rfl
theorem wu(o:nN L){f:Fr}(a:L[i]? = some f):Ke (L.map Fr.cells).flatten (i*49) 49=some f.cells:=
 qB (n:=49) _ _ _ (fun x p=>by obtain⟨f,a,rfl⟩:=b9.1 p;exact Fr.Ay (o f a).1) (by rw[aY,a];rfl)
theorem WM(hK:10000<K){c r:Ah}{v3 U:Nat}{fv:EV}(V:nN L)(hL:L.length<=200)(l3:h0.next<=v3)(lq:h0.next<=U):
 ∀(n i:Nat) (h:Ab) (v:EV) (q:Nat) (X:List (List EV)),L.length-i<n->i<=L.length->Ext h0 h->HB h0->HB h->h.get v3=some (.cells Bc 73)->iK h fv U 136 49 L.length (L.map Fr.cells).flatten->X=(L.take i).map (fun f=>Bh (Mh f))->Asm X->Bu h v q 32 64 i X.flatten->(0<i->h0.next<=q/\q≠U/\q≠v3) ->
 Ok (Qz c r K n (.ptr v3 0) v fv (I L.length) (I i) h) fun w h'=>∃v q X,w=.tuple [v,I 0]/\Bu h' v q 32 64 X.length X.flatten/\(0<X.length->h0.next<=q)/\X=L.map (fun f=>Bh (Mh f))/\Asm X/\Ext h0 h'/\HB h':=by
 intro n;induction n with
 | zero=>intro i h v q X hn;omega
 | succ n ih=>
  intro i h v q X hn hi W Y hb gv rf J hS row O;rw[Qz];simp only[I,Ac];by_cases o:i<L.length
  ·have:decide ((i:Int)<(L.length:Int))=true:=by simp;omega
   simp only[this,Aa,AN];have w:(L[i]).Wf:=(V _ (aZ o)).1;have fr:=(V _ (aZ o)).2;have e1:=wu V (aF o);have ix:=rf.ix o;simp only[I]at ix;rw[ix,rf.j6 a_ e1];have eT:(L.take (i+1)).map (fun f=>Bh (Mh f))=(L.take i).map (fun f=>Bh (Mh f))++[Bh (Mh L[i])]:=by
    rw[bV o,bZ];rfl
   generalize L[i]=f at w fr e1 eT⊢
   try simp only[Aa]
   refine Ok.mk (by simp) (Fr.Ay w) fun h2 x2 g2 _=>?_
   have u:=x2.hb hb;rw[Cv (x2.at hb gv) rfl,Ai (n:=256) Qo];simp only[Aa];rw[Cd g2 rfl (Ai (Fr.Ay w))];refine(AO w fr u hK).Al ?_;rintro _ h3 ⟨rfl,x3⟩;have ad:=x3.hb u;simp only[Aa];refine Ok.mk (by simp) (by rw[Bf,qE w]) fun h4 x4 g4 _=>?_
   have C:=x4.hb ad;have p:Ext h h4:=(x2.trans x3).trans x4;have el:(Bh (Mh f)).length=64:=by rw[Bf,qE w]
   simp only[I,Ac,aC,aA,Aa,AP];rw[Cd g4 rfl (Ai el)];have E:=row.frame (h':=h4) fun y=>p.get _ (hb _ _ (row.block y)) id
   refine Kv E C rfl (by simp) el a_ a_ ?_;intro h5 G n5 c5;simp only[AQ,Ac];rw[Ci,show((i:Nat):Int)+1=((i+1:Nat):Int) from a_];have lv:=hb _ _ gv;have ae:=rf.lt hb a_;have nx:=p.next
   have c:Aw (fun j=>0<i/\j=q) h h5:=(Ext.to p).trans c5;refine ih (i+1) h5 _ (h4.next+1) (X++[Bh (Mh f)]) a_ a_ (W.then c fun j hj a=>?_) Y (c5.hb C) (c.at hb gv fun y=>(O y.1).2.2 y.2.symm) (rf.frame fun _=>c.get _ ae fun y=>(O y.1).2.1 y.2.symm) (by rw[eT,J]) ?_ ?_ (fun _=>⟨by have:=W.next;omega,a_,a_⟩)
   ·have:=(O hj.1).1
    have:=hj.2;omega
   ·intro x hx
    rcases bO.1 hx with y|y
    ·exact hS x y
    ·rw[aP]at y
     subst y;exact⟨el,_,AS w,rfl⟩
   ·rw[cm,show([Bh (Mh f)]).flatten=Bh (Mh f)from cW _];exact G
  ·have:i=L.length:=a_
   subst this;have:decide ((L.length:Int)<(L.length:Int))=false:=by simp
   simp only[this,Aa,AU];rw[cF]at J;have lX:X.length=L.length:=by rw[J,bT]
   exact .ret ⟨v,q,X,rfl,by rw[lX];exact row,fun y=>(O a_).1,J,hS,W,hb⟩
section
variable (H:Ca disp)
include H
theorem WN(hd:8<=d)(hK:10000<K){ll:Nat}(hr:rtB g=true)(m:K7 h b ml ll g es)(hb:HB h){x z:Int}(hR:snR x y z es=true)(n0:0<=zn)(n1:zn<g.D*g.Z):
 Ok (Ag TT disp K d false 174 [U1,.agg [I x,I y,I z,.ptr b 0],I zn] h) fun w h'=>∃v q X,w=.tuple [v,I 0]/\Bu h' v q 32 64 X.length X.flatten/\(0<X.length->h.next<=q)/\X=(O9 g es x y z zn g.parts.toNat).map (fun f=>Bh (Mh f))/\Asm X/\Ext h h'/\HB h':=by
 have s:=No hr;have:=s.b0;have:=s.b1;obtain⟨e,rfl⟩:=d_ d;rw[WO H a_];simp only[AV,U1,Aa];have w1:Ext h ((h.new (.cells Bc 73)).new (.cells [I x,I y,I z,.ptr b 0] 58)):=(Aw.new _ _).Da _;have c1:((h.new (.cells Bc 73)).new (.cells [I x,I y,I z,.ptr b 0] 58)).get h.next=some (.cells Bc 73):=by rw[Az _ (aO _)];exact Ad _ _
 have J:((h.new (.cells Bc 73)).new (.cells [I x,I y,I z,.ptr b 0] 58)).get (h.next+1)=some (.cells [I x,I y,I z,.ptr b 0] 58):=Ad _ _;have p:((h.new (.cells Bc 73)).new (.cells [I x,I y,I z,.ptr b 0] 58)).next=h.next+2:=rfl
 rw[show(h.new (.cells Bc 73)).next=h.next+1 from rfl];generalize (h.new (.cells Bc 73)).new (.cells [I x,I y,I z,.ptr b 0] 58)=h1 at w1 c1 J p⊢;have a:=w1.hb hb;rw[Cv J rfl,Ai (n:=4) rfl];simp only[Aa];refine(td (K:=K) H (d:=e) a_ a_ hr (m.frame (w1.get _ (hb _ _ m.map) id) (w1.get _ (hb _ _ m.row) id) (w1.get _ (hb _ _ m.live) id)) a hR n0 n1).Al ?_;rintro _ h2 ⟨v,q,L,rfl,row,lq,O,V,U,u⟩;simp only[Aa,I,Ac,aC,aA,AW];rw[row.Fz];have hp:g.parts<=200:=by unfold Gm.parts;omega
 have lL:L.length=g.parts.toNat:=by rw[O,Wz]
 have C:Ext h h2:=w1.trans U;refine(WM hK V a_ (aD h.next) (by have:=w1.next;omega) K 0 h2 _ 0 [] a_ a_ C hb u (U.at a c1) row rfl (fun x W=>by cases W) (Bu.nil _ _ _ _) (fun y=>absurd y (bU _))).mono ?_;rintro _ h3 ⟨Y,q',X,rfl,o,E,hX,hS,xx,G⟩;exact⟨Y,q',X,rfl,o,E,by rw[hX,O],hS,xx,G⟩
end
end
structure Dk(S T:Jj):Prop where
 n:T.dv.n=S.dv.n
 size:T.dv.size=S.dv.size
 op:T.dv.op=S.dv.op
 ev:T.ev.length+T.Qc.length=S.ev.length+S.Qc.length
theorem Dk.refl(S:Jj):Dk S S:=⟨rfl,rfl,rfl,rfl⟩
theorem Dk.trans {S T U:Jj}(a:Dk S T)(b:Dk T U):Dk S U:=⟨b.n.trans a.n,b.size.trans a.size,b.op.trans a.op,b.ev.trans a.ev⟩
def Vk(D E:Dv):Prop:=E.n=D.n/\E.size=D.size/\E.op=D.op
theorem WQ(D:Dv)(i:Int)(st:Nat):Vk D (D.fail i st):=by
 unfold Dv.fail;split<;>exact⟨rfl,rfl,rfl⟩
theorem WR(D:Dv)(z off:Int)(p:List EV):Vk D (D.mG z off p):=by
 unfold Dv.mG;split<;>exact⟨rfl,rfl,rfl⟩
theorem WS(D:Dv)(e:Le):Vk D (D.Ta e):=by
 unfold Dv.Ta
 repeat' split
 all_goals first|exact WR _ _ _ _|exact WQ _ _ _|exact⟨rfl,rfl,rfl⟩
theorem AX:∀(ev:List Le) (D:Dv) (Qc:List Le),Dk ⟨D,ev,Qc⟩ (kI ev D Qc)
 | [],D,Qc=>by unfold kI;exact⟨rfl,rfl,rfl,rfl⟩
 | e::r,D,Qc=>by
  unfold kI;split
  ·exact⟨rfl,rfl,rfl,rfl⟩
  ·have f:=AX r (D.Ta e) (Qc++[e])
   obtain⟨a,b,c⟩:=WS D e;refine⟨f.n.trans a,f.size.trans b,f.op.trans c,f.ev.trans ?_⟩;show r.length+(Qc++[e]).length=(e::r).length+Qc.length;simp only[aE,bP,fL];omega
theorem AY(S:Jj):Dk S S.due:=AX S.ev S.dv S.Qc
theorem pk(S:Jj)(i:Int):Dk S (S.begin i):=by
 unfold Jj.begin;split
 ·exact AY S
 ·exact Dk.refl S
theorem qF {S:Jj}(v:Vk S.dv D):Dk S { S with dv:=D }:=⟨v.1,v.2.1,v.2.2,rfl⟩
theorem WT(D:Dv)(i:Int)(x:List EV):Vk D (D.append i x).1:=by
 unfold Dv.append
 repeat' split
 all_goals exact⟨rfl,rfl,rfl⟩
theorem WU(D:Dv)(i:Int):Vk D (D.reset i).1:=by
 unfold Dv.reset
 repeat' split
 all_goals exact⟨rfl,rfl,rfl⟩
theorem WV(D:Dv)(i:Int):Vk D (D.finish i).1:=by
 unfold Dv.finish
 repeat' split
 all_goals exact⟨rfl,rfl,rfl⟩
theorem WW(D:Dv):Vk D D.flush.1:=by
 unfold Dv.flush;split<;>exact⟨rfl,rfl,rfl⟩
theorem AZ(S:Jj)(i:Int)(x:List EV):Dk S (S.append i x).1:=(pk S i).trans (qF (S:=S.begin i) (WT _ i x))
theorem A'(S:Jj)(i:Int):Dk S (S.reset i).1:=(pk S i).trans (qF (S:=S.begin i) (WU _ i))
theorem A_(S:Jj)(i:Int):Dk S (S.finish i).1:=(pk S i).trans (qF (S:=S.begin i) (WV _ i))
theorem qG(S:Jj):Dk S S.flush.1:=(AY S).trans (qF (S:=S.due) (WW _))
def Wg(P:Nat->Prop)(S T:Jj):Prop:=S.ev = []->T.ev = []/\∀w,¬P w->(T.dv.zs w).l=(S.dv.zs w).l
theorem Wg.refl(P:Nat->Prop)(S:Jj):Wg P S S:=fun h=>⟨h,fun _ _=>rfl⟩
theorem Wg.trans {P:Nat->Prop}{S T U:Jj}(a:Wg P S T)(b:Wg P T U):Wg P S U:=fun h=>by
 obtain⟨f,o⟩:=a h;obtain⟨b1,b2⟩:=b f;exact⟨b1,fun w hw=>(b2 w hw).trans (o w hw)⟩
theorem Wg.mono {P Q:Nat->Prop}{S T:Jj}(a:Wg P S T)(h:∀w,P w->Q w):Wg Q S T:=fun e=>⟨(a e).1,fun w hw=>(a e).2 w fun y=>hw (h w y)⟩
theorem Bd {S:Jj}(h:S.ev = []):S.due=S:=by
 obtain⟨D,ev,Qc⟩:=S;have h:ev = []:=h;subst h;rfl
theorem qH {S:Jj}(h:S.ev = [])(i:Int):S.begin i=S:=by
 unfold Jj.begin;split
 ·exact Bd h
 ·rfl
theorem BA(zs:Nat->Zn){w:Nat}(Z:Zn)(h:¬w=i):Wm zs i Z w=zs w:=by unfold Wm;rw[aK h]
theorem BB(zs:Nat->Zn)(i:Nat)(Z:Zn):Wm zs i Z i=Z:=by unfold Wm;rw[aN rfl]
theorem WX(S:Jj)(z:Int)(x:List EV)(hs:S.dv.has z=true->(S.dv.zs z.toNat).st<=4):Wg (fun w=>w=z.toNat) S (S.append z x).1/\(S.ev = []->(S.append z x).2.2=0->S.dv.has z=true/\(S.append z x).2.1=(S.dv.zs z.toNat).l.length/\((S.append z x).1.dv.zs z.toNat).l=(S.dv.zs z.toNat).l++[x]):=by
 refine⟨fun h=>?_,fun h=>?_⟩
 ·unfold Jj.append
  rw[qH h];refine⟨h,fun w hw=>?_⟩;show((S.dv.append z x).1.zs w).l=_;unfold Dv.append;split
  ·rfl
  ·split
   ·rfl
   ·split
    ·rfl
    ·show(Wm S.dv.zs z.toNat _ w).l=_
     rw[BA _ _ hw]
 ·unfold Jj.append
  rw[qH h];show(S.dv.append z x).2.2=0->S.dv.has z=true/\(S.dv.append z x).2.1=_/\((S.dv.append z x).1.zs z.toNat).l=_;have hb:¬S.dv.Ez z≠0->S.dv.has z=true:=fun a=>by
   cases f:S.dv.has z with
   | true=>rfl
   | false=>
    refine absurd ?_ a;unfold Dv.Ez;rw[f];split<;>simp
  unfold Dv.append;split
  next y=>intro e;exact absurd e y
  ·split
   ·intro e;exact absurd e (by show ¬(33:Int)=0;decide)
   ·split
    next y=>
     intro e;have e:(if(S.dv.zs z.toNat).st=2 then(17:Int)else Ki (S.dv.zs z.toNat).st)=0:=e;rename_i a _ _;have o:=hb a;have:=hs o;unfold Ki at e;split at e
     ·cases e
     ·split at e
      ·cases e
      ·split at e
       ·cases e
       ·omega
    next a _ _=>
     intro _;refine⟨hb a,rfl,?_⟩;show(Wm S.dv.zs z.toNat _ z.toNat).l=_;rw[BB];rfl
theorem BC(S:Jj)(z:Int):Wg (fun w=>w=z.toNat) S (S.reset z).1/\(S.ev = []->(S.reset z).2=0->((S.reset z).1.dv.zs z.toNat).l = []):=by
 refine⟨fun h=>?_,fun h=>?_⟩
 ·unfold Jj.reset
  rw[qH h];refine⟨h,fun w hw=>?_⟩;show((S.dv.reset z).1.zs w).l=_;unfold Dv.reset;split
  ·rfl
  ·split
   ·show(Wm S.dv.zs z.toNat _ w).l=_
    rw[BA _ _ hw]
   ·rfl
 ·unfold Jj.reset
  rw[qH h];show(S.dv.reset z).2=0->((S.dv.reset z).1.zs z.toNat).l=_;unfold Dv.reset;split
  next y=>intro e;exact absurd e y
  ·intro e
   have e:Ki (S.dv.zs z.toNat).st=0:=e;rw[aN e];show(Wm S.dv.zs z.toNat _ z.toNat).l=_;rw[BB];rfl
theorem wv(P:Nat->Prop)(S:Jj)(z:Int):Wg P S (S.finish z).1:=fun h=>by
 unfold Jj.finish;rw[qH h];refine⟨h,fun w _=>?_⟩;show((S.dv.finish z).1.zs w).l=_;unfold Dv.finish;split
 ·rfl
 ·split
  ·show(Wm S.dv.zs z.toNat _ w).l=_
   unfold Wm;split
   next y=>subst y;rfl
   ·rfl
  ·rfl
theorem BD(P:Nat->Prop)(S:Jj):Wg P S S.flush.1:=fun h=>by
 unfold Jj.flush;rw[Bd h];refine⟨h,fun w _=>?_⟩;show(S.dv.flush.1.zs w).l=_;unfold Dv.flush;split<;>rfl
structure WY(disp:Nat->Option FT)(K:Nat)(h:Ab)(m:Nat)(S:Mi)(F:Nat->Prop)(D V:Nat):Prop where
 C0:∀k:EV->Ab->R,Al (Bm K (.ptr m 0) h) k=k (.ptr D 0) h
 Bsh:Bm K (.ptr m 0) h.lift=some (.ptr D 0,h.lift)
 table:Ok (Lb K (.ptr m 0) h.lift) fun v h'=>v=U1/\Ext h.lift h'
 device:∀k:EV->Ab->R,Al (Dl K (.ptr D 0) h) k=k (.ptr V 0) h
 state:∀(i:Int) (k:EV->Ab->R),Al (Kk K (.ptr V 0) (I i) h) k=k (I (if S.dr.dv.has i=true then(S.dr.dv.zs i.toNat).st else 4)) h
 reset:∀{d:Nat},14<=d->∀i:Int,0<(S.dr.begin i).dv.size->Ok (Ag TT disp K d false 96 [.ptr D 0,I i] h) fun v h'=>v=I (S.dr.reset i).2/\C8 h' m { S with dr:=(S.dr.reset i).1 } F/\Kf F h h'/\HB h'
 finish:∀{d:Nat},14<=d->∀i:Int,Ok (Ag TT disp K d false 179 [.ptr D 0,I i] h) fun v h'=>v=I (S.dr.finish i).2/\C8 h' m { S with dr:=(S.dr.finish i).1 } F/\Kf F h h'/\HB h'
 flush:∀{d:Nat},14<=d->Ok (Ag TT disp K d false 52 [.ptr D 0] h) fun v h'=>v=I S.dr.flush.2/\C8 h' m { S with dr:=S.dr.flush.1 } F/\Kf F h h'/\HB h'
 append:∀{d:Nat},14<=d->∀(z:Int) {x:List EV},x.length=64->U8 x->∀{i b:Nat} {s:DX} {k:EV->Ab->DX->R} {Q:EV->Ab->Prop},Ab3 b s=true->loose b s.nw = []->(∀w,Tb b w s.Cy=true) ->
  (∀h' s',C8 h' m { S with dr:=(S.dr.append z x).1 } F->Kf F h h'->HB h'->Ok (k (.tuple [I (S.dr.append z x).2.1,I (S.dr.append z x).2.2]) h' s') Q)->Ok (Ev.Kw i b s h (fun h=>Ag TT disp K d false 177 [.ptr D 0,I z,.agg x] h) k) Q
theorem nO(A:Ca disp)(hK:10000<K)(M:C8 h m S F)(hb:HB h):∃D V,WY disp K h m S F D V:=by
 obtain⟨lt,D,p,bl,ql,np,q,c,G,a⟩:=M.s;obtain⟨V,M',qc,qh,cs,hs,ms,F',b⟩:=a.drv.Ly;have due:lQ disp K S.dr:=th A a_ S.dr;have E:=a.Jb.ext (h':=h.lift) fun i o g=>by rw[Bv];exact g
 refine⟨D,V,⟨fun k=>by rw[Vq a.Jb,Aq],Vq E,WZ E (Cz hb),fun k=>by rw[BE b,Aq],fun i k=>by rw[W_ b.dev,Aq],?_,?_,?_,?_⟩⟩
 ·intro d hd i hs
  refine(VN A a_ hd due a.drv hb i hs).mono ?_;rintro _ h' ⟨rfl,s2,c2,f⟩;obtain⟨M2,u⟩:=M.drv hb a s2 c2;exact⟨rfl,M2,u,f⟩
 ·intro d hd i
  refine(BF A hd due a.drv hb i).mono ?_;rintro _ h' ⟨rfl,s2,c2,f⟩;obtain⟨M2,u⟩:=M.drv hb a s2 c2;exact⟨rfl,M2,u,f⟩
 ·intro d hd
  refine(BG A a_ hd due a.drv hb).mono ?_;rintro _ h' ⟨rfl,s2,c2,f⟩;obtain⟨M2,u⟩:=M.drv hb a s2 c2;exact⟨rfl,M2,u,f⟩
 ·intro d hd z x J hu i b' s k Q b0 b1 b2 O
  refine Ok.qI (S:=G) b0 b1 b2 (BH (K:=K) A a_ (d:=d) hd due a.drv.lift (Cz hb) z J hu) (fun _ _ p=>p.2.2.1) ?_;rintro _ h6 U s' ⟨rfl,d6,_,C⟩ sm W _;obtain⟨X,Y⟩:=M.drv hb a (d6.same sm) W;exact O U s' X Y (sm.hb C)
section
def arC(m:Nat)(cur Cn:Nat->Int):List EV:=[.ptr m 0,I (cur 0),I (Cn 0),I (cur 1),I (Cn 1),I (cur 2),I (Cn 2)]
def ti(h h':Ab)(m:Nat)(S:Mi)(F:Nat->Prop)(z:Int)(R:Int->Jj->Prop)(v:EV):Prop:=∃(e:Int) (a:Jj),v=I e/\C8 h' m { S with dr:=a } F/\Dk S.dr a/\Wg (fun w=>w=z.toNat) S.dr a/\R e a/\Kf F h h'/\HB h'
theorem C8.st(M:C8 h m S F)(z:Int)(f:S.dr.dv.has z=true):(S.dr.dv.zs z.toNat).st<=4:=by
 obtain⟨lt,D,p,bl,ql,np,q,c,G,a⟩:=M.s;obtain⟨V,N,qc,qh,cs,hs,ms,H,b⟩:=a.drv.Ly;have:=cX f;exact(b.dev.wf.zs z.toNat a_).st
section
variable (A:Ca disp)(hK:10000<K)(M:C8 h m S F)(hb:HB h)(hA:h.get ar=some (.cells (arC m cur Cn) 126))(fA:F ar){z:Int}
include A hK M hb hA
theorem XA(hd:15<=d)(hs:0<S.dr.dv.size):Ok (Ag TT disp K d false 176 [.ptr ar 0,I z] h) fun v h'=>ti h h' m S F z (fun _ _=>True) v:=by
 obtain⟨e,rfl⟩:=d_ d;rw[XB A a_];simp only[BI,Aa];rw[Ak hA rfl (v:=.ptr m 0) rfl];obtain⟨D,V,dr⟩:=nO A hK M hb;rw[dr.C0,dr.device,dr.state];generalize (if S.dr.dv.has z=true then((S.dr.dv.zs z.toNat).st:Int)else 4)=st;simp only[I,Ac];by_cases f:st=0
 ·simp only[f,aB,Aa]
  exact .ret ⟨_,S.dr,rfl,M,Dk.refl _,Wg.refl _ _,trivial,Aw.refl _,hb⟩
 ·simp only[f,aA,Aa,BJ]
  rw[Ak hA rfl (v:=.ptr m 0) rfl,dr.C0];refine(dr.reset (d:=e) a_ z (by rw[(pk S.dr z).size];exact hs)).Al ?_;rintro _ h' ⟨rfl,M2,o,a⟩;exact .ret ⟨_,_,rfl,M2,A' _ _,(BC _ _).1,trivial,o,a⟩
omit hA hb M in
theorem XC(hd:14<=d){X:List (List EV)}(hX:Asm X)(aq:X.length<=1000)(C:0<X.length){v:EV}:∀(f i:Nat) (h:Ab) (S:Mi),X.length-i<f->i<=X.length->(q0->S.dr.ev = []/\(0<i->S.dr.dv.has z=true/\(S.dr.dv.zs z.toNat).l=X.take i))->C8 h m S F->HB h->h.get ar=some (.cells (arC m cur Cn) 126)->F ar->F q->Bu h v q 32 64 X.length X.flatten ->
 Ok (Mt (Ag TT disp K d false) (Ag TT disp K d true) K f (.ptr ar 0) (I z) v (I X.length) (I i) h) fun w h'=>ti h h' m S F z (fun e E=>e=0->q0->S.dr.dv.has z=true/\(E.dv.zs z.toNat).l=X) w:=by
 intro f;induction f with
 | zero=>intro i h S hf;omega
 | succ f ih=>
  intro i h S hf hi G M hb hA fA fq row;rw[Mt];simp only[I,Ac];by_cases o:i<X.length
  ·have:decide ((i:Int)<(X.length:Int))=true:=by simp;omega
   simp only[this,Aa,BK];obtain⟨Y,xu⟩:=hX _ (aZ o);have e1:Ke X.flatten (i*64) 64=some X[i]:=qu (n:=64) _ _ _ (fun x hx=>(hX x hx).1) (aF o);have ix:=row.ix o .i64;rw[ix,Cd (row.block a_) rfl e1];have et:X.take (i+1)=X.take i++[X[i]]:=bV o;generalize X[i]=x at Y xu et
   try simp only[Aa]
   refine Ok.vN (Ad _ _) (by simp) Y ?_;obtain⟨h2,e_,x2,g2,_⟩:=nP h (.cells (List.replicate 64 (EV.int .u8 0)) 32) (.cells x 32);rw[e_];have a:=x2.hb hb;have J:=x2.at hb hA;have M2:=(M.ext hb x2).less fun j (hj:F j)=>Or.inl hj
   have l2:=a _ _ J;have l3:=a _ _ g2;obtain⟨D,V,dr⟩:=nO A hK M2 a;rw[I6 l2,Ak J rfl (v:=.ptr m 0) rfl]
   try simp only[Aa,Ar]
   rw[lS dr.Bsh]
   try simp only[Aa,Ar]
   rw[I6 l3,Cd g2 rfl (Ai Y)]
   try simp only[Aa,Ar]
   refine dr.append hd z Y xu (by kernel_rfl) (by kernel_rfl) (fun _=>by kernel_rfl) ?_;intro h4 s4 M4 k4 O;have dk:=AZ S.dr z x;obtain⟨on,ex⟩:=WX S.dr z x (M.st z);generalize (S.dr.append z x)=R at M4 dk on ex⊢;obtain⟨R1,ro,re⟩:=R;have p:Kf F h h4:=(Ext.kf x2).trans k4;have fin:∀e:Int,¬e=0->Ok (some (EV.int .i64 e,h4)) fun w h'=>ti h h' m S F z (fun e E=>e=0->q0->S.dr.dv.has z=true/\(E.dv.zs z.toNat).l=X) w:=fun e ne=>.ret ⟨e,R1,rfl,M4,dk,on,fun y=>absurd y ne,p,O⟩
   simp only at M4 dk on ex;simp only[Aa,I,Ac];by_cases u:re=0
   ·subst u
    simp only[aB,Aa,Ac];by_cases U:ro=(i:Int)
    ·simp only[U,aC,aA,Aa,Ac,Qk,Qv,BL]
     rw[Ci,show((i:Nat):Int)+1=((i+1:Nat):Int) from a_];refine(ih (i+1) h4 _ a_ a_ (fun e=>?_) M4 O (p.at hb hA fA) fA fq (row.frame fun y=>p.get _ (hb _ _ (row.block y)) fun y=>y fq)).mono ?_
     ·obtain⟨e1,e2⟩:=G e
      refine⟨(on e1).1,fun _=>?_⟩;obtain⟨a0,a1,a2⟩:=ex e1 rfl;refine⟨by rw[<-a0];show decide _=decide _;rw[dk.n],?_⟩;show(R1.dv.zs z.toNat).l=_;rw[a2,et];congr 1;by_cases i0:0<i
      ·exact(e2 i0).2
      ·have i0:i=0:=a_
       subst i0;exact cY a_
     ·rintro _ h5 ⟨e,E,rfl,M5,c5,ad,W,k5,ae⟩
      exact⟨e,E,rfl,M5,dk.trans c5,on.trans ad,fun e0 q=>⟨by rw[<-(W e0 q).1];show decide _=decide _;rw[show R1.dv.n=S.dr.dv.n from dk.n],(W e0 q).2⟩,p.trans k5,ae⟩
    ·simp only[U,aH,aB,Aa,Ac,Qk,Qv,show ¬((30:Int)=0) from c_]
     exact fin 30 c_
   ·simp only[u,aA,Aa,Ac,Qk,Qv,aH,aB]
    exact fin re u
  ·have:i=X.length:=a_
   subst this;have:decide ((X.length:Int)<(X.length:Int))=false:=by simp
   simp only[this,Aa,BM];have full:(S.dr.ev = []/\(0<X.length->S.dr.dv.has z=true/\(S.dr.dv.zs z.toNat).l=X.take X.length))->S.dr.dv.has z=true/\(S.dr.dv.zs z.toNat).l=X:=fun y=>⟨(y.2 C).1,by rw[(y.2 C).2,cF]⟩
   rw[Ak hA rfl (v:=.ptr m 0) rfl];obtain⟨D,V,dr⟩:=nO A hK M hb;rw[dr.C0,dr.device];have st:=dr.state z;simp only[I]at st;rw[st];generalize (if S.dr.dv.has z=true then((S.dr.dv.zs z.toNat).st:Int)else 4)=st';simp only[I,Ac];by_cases hz:st'=2
   ·simp only[hz,aB,Aa]
    exact .ret ⟨0,S.dr,rfl,M,Dk.refl _,Wg.refl _ _,fun _ q=>full (G q),Aw.refl _,hb⟩
   ·simp only[hz,aA,Aa,BN]
    rw[Ak hA rfl (v:=.ptr m 0) rfl,dr.C0];refine(dr.finish (d:=d) hd z).Al ?_;rintro _ h' ⟨rfl,M2,k2,a⟩;exact .ret ⟨_,_,rfl,M2,A_ _ _,wv _ _ _,fun _ q=>⟨(full (G q)).1,((wv (fun _=>False) S.dr z (G q).1).2 _ id).trans (full (G q)).2⟩,k2,a⟩
end
end
section
def Bn2(g:Gm)(es:List Me)(x y z zn:Int):List (List EV):=(O9 g es x y z zn g.parts.toNat).map fun f=>Bh (Mh f)
section
variable (A:Ca disp)(hK:10000<K){ll:Nat}(M:C8 h m S F)(hb:HB h)(hA:h.get ar=some (.cells (arC m cur Cn) 126))(fA:F ar)(hr:rtB S.g=true)(mp:K7 h b ml ll S.g es){x z:Int}(hR:snR x y z es=true)(n0:0<=zn)(n1:zn<S.g.D*S.g.Z)
include A hK M hb hA fA hr mp hR n0 n1
theorem XD(hd:17<=d)(hs:0<S.dr.dv.size):Ok (Ag TT disp K d false 138 [.ptr ar 0,.agg [I x,I y,I z,.ptr b 0],I zn] h) fun v h'=>ti h h' m S F zn (fun e D'=>e=0->S.dr.ev = []->S.dr.dv.has zn=true/\(D'.dv.zs zn.toNat).l=Bn2 S.g es x y z zn) v:=by
 have s:=No hr;have hp:S.g.parts<=S.g.S:=by
  have:=hr;unfold rtB at this;simp only[bD,av]at this;exact this.2.1
 have:=s.s0;have:=s.s1;have:=s.b0;have ay:1<=S.g.parts:=by unfold Gm.parts;omega
 obtain⟨e,rfl⟩:=d_ d;rw[XE A a_];simp only[BO,Aa];obtain⟨h1,e_,x1,g1,a2⟩:=nW h (.cells [I x,I y,I z,.ptr b 0] 58);rw[e_];have u:=x1.hb hb;have U:=x1.at hb hA;have M1:=(M.ext hb x1).less fun j (hj:F j)=>Or.inl hj
 have l1:=u _ _ U;obtain⟨D,V,dr⟩:=nO A hK M1 u;rw[I6 l1,Ak U rfl (v:=.ptr m 0) rfl]
 try simp only[Aa,Ar]
 refine Ok.bE dr.table (fun _ _ p=>p.2) ?_;rintro _ a6 h2 ⟨rfl,_⟩ _ x2;have G:=x2.hb u;have g2:=x2.at u g1;have l2:=G _ _ g2;have ah:h.next<h1.next:=a_
 try simp only[Aa,Ar]
 rw[I6 ah,Cv g2 rfl,Ai (n:=4) rfl]
 try simp only[Aa,Ar]
 have f:Ext h h2:=x1.trans x2;have ai:K7 h2.lift b ml ll S.g es:=(mp.frame (f.get _ (hb _ _ mp.map) id) (f.get _ (hb _ _ mp.row) id) (f.get _ (hb _ _ mp.live) id)).frame (Bv _ _) (Bv _ _) (Bv _ _);refine Ok.bE (WN (K:=K) A (d:=e) a_ hK hr ai (Cz G) hR n0 n1) (fun _ _ p=>by obtain⟨_,_,_,_,_,_,_,_,p,_⟩:=p;exact p) ?_;rintro _ a7 h3 ⟨v,q,X,rfl,row,lq,W,hX,_,_⟩ sm x3;have hL:X.length=S.g.parts.toNat:=by rw[W,bT,Wz]
 have C:=x3.hb G;have o:Bu h3 v q 32 64 X.length X.flatten:=row.frame fun _=>sm.get _
 have hq:h2.next<=q:=lq a_
 simp only[Aa,I,Ac,aC,aA,BP];have J:Ext h h3:=f.trans x3;have Y:=J.at hb hA;have M3:C8 h3 m S (fun i=>F i\/i=q):=(M.ext hb J).less fun j hj=>by
  rcases hj with hj|hj
  ·exact .inl hj
  ·subst hj
   have:=C _ _ (o.block a_);have:=f.next
   exact .inr ⟨a_,a_⟩
 refine(XA (K:=K) A hK M3 C Y (z:=zn) (d:=e) a_ hs).Al ?_;rintro _ h4 ⟨e4,D',rfl,M4,c4,O,_,k4,aa⟩;have ab:Kf F h h4:=(Ext.kf J).trans (k4.less fun j hj=>.inl hj);simp only[Aa,I,Ac];by_cases h0:e4=0
 ·simp only[h0,aC,aA,Aa,BQ]
  have E:=o.frame (h':=h4) fun y=>k4.get _ (C _ _ (o.block y)) fun w=>w (.inr rfl)
  rw[E.Fz];refine(XC (K:=K) A hK (d:=e) a_ hX a_ a_ (q0:=S.dr.ev = []) K 0 h4 _ a_ a_ (fun q=>⟨(O q).1,fun y=>absurd y (bU _)⟩) M4 aa (k4.at C Y (.inl fA)) (.inl fA) (.inr rfl) E).mono ?_;rintro _ h5 ⟨e5,D2,rfl,M5,c5,ao,ad,k5,aq⟩;exact⟨e5,D2,rfl,M5.less fun j hj=>.inl hj,c4.trans c5,O.trans ao,fun a b=>⟨by rw[<-(ad a b).1];show decide _=decide _;rw[show D'.dv.n=S.dr.dv.n from c4.n],(ad a b).2.trans W⟩,ab.trans (k5.less fun j hj=>.inl hj),aq⟩
 ·simp only[h0,aH,aB,Aa]
  exact .ret ⟨e4,D',rfl,M4.less fun j hj=>.inl hj,c4,O,fun y=>absurd y h0,ab,aa⟩
end
end
section
def Nd(f:Nat->Int)(i:Nat)(v:Int):Nat->Int:=fun j=>if j=i then v else f j
theorem BR(hi:i<3):(arC m cur Cn)[1+i*2+1]? = some (I (Cn i)):=by
 rcases i with _|_|_|i<;>first|rfl|omega
theorem BS(hi:i<3):(arC m cur Cn)[1+i*2]? = some (I (cur i)):=by
 rcases i with _|_|_|i<;>first|rfl|omega
theorem BT(hi:i<3)(v:Int):(arC m cur Cn).set (1+i*2+1) (I v)=arC m cur (Nd Cn i v):=by
 rcases i with _|_|_|i<;>first|rfl|omega
theorem wy(hi:i<3)(v w:Int):Nl (arC m cur Cn) (1+i*2) [I v,I w]=some (arC m (Nd cur i v) (Nd Cn i w)):=by
 rcases i with _|_|_|i<;>first|rfl|omega
theorem BU{z:Int}(h:S.Ja z=false):0<=D4 S.g z->¬S.bad z.toNat=1:=by
 intro hd hb;unfold Mi.Ja at h;rw[aQ hd,aQ hb]at h;cases h
def iV(S:Mi)(o:Int)(i:Nat):Int × Mi:=
 if ¬o = -1/\S.Ja o=false then(o,S)else match S.ps i with
 | []=>(-1,S)
 | z::r=>(z,{ S with ps:=upd S.ps i r })
section
variable (A:Ca disp)(hK:10000<K)(M:C8 h m S F)(hb:HB h)(hA:h.get ar=some (.cells (arC m cur Cn) 126))(fA:F ar)(hi:i<3)
include hK M hb
theorem XF(hi:i<S.g.D.toNat)
 (O:∀h',(S.ps i = []->C8 h' m S F->Kf F h h'->HB h'->Ok (k (.tuple [I 0,I 15]) h') Q)/\(∀z r,S.ps i=z::r->C8 h' m { S with ps:=upd S.ps i r } F->Kf F h h'->HB h'->Ok (k (.tuple [I z,I 0]) h') Q)) :
 Ok (Al (Cq K (.ptr m 0) h) fun v h=>Al (Ps K v (I i) h) k) Q:=by
 obtain⟨lt,D,p,bl,ql,np,q,c,G,a⟩:=M.s;rw[Xw a.Jb,Aq];have C:=a.psz.nd;subst C;refine(wA (K:=K) a.Gt hb a.psz a_ i).Al ?_;rintro _ h' ⟨c3,u,x,e,o,rfl,U,V,alt⟩;obtain⟨a3,cH⟩:=a.po hb U V c3;have wf:∀{o},(∀d,d<S.g.D.toNat->∀x∈o d,x∈S.ps d)->Mi.Wf { S with ps:=o }:=fun sub=>{ toWp:=⟨M.wf.sm,fun d hd x f=>M.wf.ps d hd x (sub d hd x f)⟩,op:=M.wf.op }
 rcases alt with⟨y,_⟩|⟨_,_,y,rfl,rfl,rfl⟩|⟨_,_,rfl,r,y,rfl⟩
 ·omega
 ·obtain⟨E,J⟩:=M.made (Ss.mono (H:=Out F h) ⟨fun i hi=>aL hi.1 cH.next,D,p,bl,ql,_,q,c,G,a3⟩ (fun _=>.inl) (Bg.lt lt cH.next)) cH (wf fun d hd x f=>f)
  exact(O h').1 y E J u
 ·have y:S.ps i=x::r:=y
  obtain⟨E,J⟩:=M.made (Ss.mono (H:=Out F h) ⟨fun i hi=>aL hi.1 cH.next,D,p,bl,ql,_,q,c,G,a3⟩ (fun _=>.inl) (Bg.lt lt cH.next)) cH (wf fun d hd W f=>by
   unfold upd at f;split at f
   next e=>
    have e:d=i:=e;subst e;rw[y];exact aV _ f
   ·exact f)
  exact(O h').2 x r y E J u
include hA fA hi
theorem XG(O:Vv (Cn i)):Ok (Si K (.ptr ar 0) (I i) h) fun v h'=>v=I (iV S (Cn i) i).1/\C8 h' m (iV S (Cn i) i).2 F/\h'.get ar=some (.cells (arC m cur (Nd Cn i (-1))) 126)/\Aw (fun j=>¬F j\/j=ar) h h'/\HB h':=by
 have U:=hb _ _ hA;have sm:=M.wf.sm;have:=sm.d0;simp only[Si,Aa];unfold I;rw[Vo hi]
 try simp only[Aa]
 rw[Ak hA rfl (BR hi),Vo hi]
 try simp only[Aa]
 refine Ok.Z7 hA rfl rfl (by show _<7;omega) ?_;rw[show(arC m cur Cn).set (1+i*2+1) (.int .i64 (-1))=arC m cur (Nd Cn i (-1))from BT hi (-1)];have c1:Aw (fun j=>j=ar) h (h.put ar (.cells (arC m cur (Nd Cn i (-1))) 126)):=(Aw.refl (S:=fun j=>j=ar) h).Ao (.inl rfl) U _;have f:(h.put ar (.cells (arC m cur (Nd Cn i (-1))) 126)).get ar=some (.cells (arC m cur (Nd Cn i (-1))) 126):=Af _ _ _;generalize h.put ar (.cells (arC m cur (Nd Cn i (-1))) 126)=h1 at c1 f⊢;have a:=c1.hb hb;have E:=M.iv c1 fun j hj _=>hj▸fA
 have o:Aw (fun j=>¬F j\/j=ar) h h1:=c1.mono fun j hj=>.inr hj
 have take:∀h1,C8 h1 m S F->HB h1->h1.get ar=some (.cells (arC m cur (Nd Cn i (-1))) 126)->Aw (fun j=>¬F j\/j=ar) h h1->Ok (Ts K (.ptr ar 0) (.int .i64 (i:Int)) h1) fun v h'=>v=I (match S.ps i with | []=>(-1,S)|z::r=>(z,{ S with ps:=upd S.ps i r }):Int × Mi).1/\C8 h' m (match S.ps i with | []=>(-1,S)|z::r=>(z,{ S with ps:=upd S.ps i r }):Int × Mi).2 F/\h'.get ar=some (.cells (arC m cur (Nd Cn i (-1))) 126)/\Aw (fun j=>¬F j\/j=ar) h h'/\HB h':=by
  intro h1 E a f o;simp only[Ts,Aa];rw[Ak f rfl (v:=.ptr m 0) rfl];refine XF hK E a (i:=i) a_ fun h'=>⟨fun e M2 G p=>?_,fun z r e M2 G p=>?_⟩
  ·rw[e]
   simp only[Aa,I,Ac];exact .ret ⟨rfl,M2,G.at a f fA,o.trans (G.mono fun j hj=>.inl hj),p⟩
  ·rw[e]
   simp only[Aa,I,Ac,aC,aA,BV];exact .ret ⟨rfl,M2,G.at a f fA,o.trans (G.mono fun j hj=>.inl hj),p⟩
 simp only[I,Ac];unfold iV;by_cases u:Cn i = -1
 ·rw[aK (fun y=>y.1 u)]
  simp only[u,aC,aA,Aa,Ac,N3];exact take _ E a f o
 ·simp only[u,aH,aB,Aa,Ac,gQ]
  rw[Ak f rfl (v:=.ptr m 0) rfl];refine(O0 (K:=K) E.s a O).Al ?_;rintro _ h2 ⟨rfl,C⟩;have p:=C.hb a;cases J:S.Ja (Cn i)with
  | true=>
   rw[aK (by simp)];simp only[Aa,N3];exact take _ ((E.ext a C).less fun j (hj:F j)=>Or.inl hj) p (C.at a f) (o.trans (Ext.to C))
  | false=>
   rw[aN rfl];simp only[Aa,N3];exact .ret ⟨rfl,(E.ext a C).less fun j (hj:F j)=>Or.inl hj,C.at a f,o.trans (Ext.to C),p⟩
end
end
structure Mk(S T:Mi):Prop where
 g:T.g=S.g
 dr:Dk S.dr T.dr
theorem Mk.refl(S:Mi):Mk S S:=⟨rfl,Dk.refl _⟩
theorem Mk.trans {U:Mi}(a:Mk S T)(b:Mk T U):Mk S U:=⟨b.g.trans a.g,a.dr.trans b.dr⟩
theorem BW(S:Mi)(z u:Int):Mk S (S.leave z u).1:=by
 refine⟨(wB S z u).1,?_⟩;unfold Mi.leave;split
 ·exact Dk.refl _
 ·split
  ·exact Dk.refl _
  ·exact A_ _ _
theorem XH(S:Mi):Mk S S.close.1:=by
 unfold Mi.close;exact((⟨rfl,Dk.refl _⟩:Mk S { S with a:=-1,b:=-1,u:=0 }).trans (BW _ _ _)).trans (BW _ _ _)
theorem tj(S:Mi)(z:Int):Mk S (S.Bq z).1:=by
 unfold Mi.Bq;split
 ·exact Mk.refl _
 ·split
  ·exact Mk.refl _
  ·split
   ·exact⟨rfl,Dk.refl _⟩
   ·exact(⟨rfl,Dk.refl _⟩:Mk S (S.mark z)).trans (XH _)
theorem XI(S:Mi):Mk S S.ready.1:=by
 refine⟨(BX S).1,?_⟩;unfold Mi.ready;split
 ·exact Dk.refl _
 ·split
  ·exact qG _
  ·split<;>exact qG _
theorem wD(S:Mi)(e:En)(Am Bw As seq:Int):Mk S (S.put e Am Bw As seq).1:=by
 refine⟨(wE S e Am Bw As seq).1,?_⟩;unfold Mi.put;split
 ·exact Dk.refl _
 ·exact AZ _ _ _
theorem XJ(S:Mi)(e:En)(As seq:Int):Mk S (S.both e As seq).1:=by
 unfold Mi.both;split
 ·exact wD _ _ _ _ _ _
 ·exact(wD _ _ _ _ _ _).trans (wD _ _ _ _ _ _)
theorem BZ(S:Mi):Mk S S.lT:=⟨rfl,Dk.refl _⟩
theorem XK(B:Mi × Int × Int):Mk B.1 (Mi.Lu B):=by
 unfold Mi.Lu;split
 ·exact BZ _
 ·exact Mk.refl _
theorem B'(e:En)(As seq:Int):∀(n:Nat) (S:Mi),Mk S (Mi.Rt e As seq n S).1
 | 0,S=>Mk.refl S
 | n+1,S=>by
  have a:=XI S;have b:=a.trans (XJ S.ready.1 e As seq);have c:=(b.trans (XK _)).trans (tj _ (S.ready.1.both e As seq).2.1);unfold Mi.Rt;split
  ·exact a
  ·split
   ·exact b.trans (BZ _)
   ·split
    ·exact b
    ·split
     ·exact c
     ·exact c.trans (B' e As seq n _)
theorem XL(S:Mi)(e:En)(As seq:Int):Mk S (S.place e As seq).1:=by
 unfold Mi.place;split
 ·exact Mk.refl _
 ·exact B' _ _ _ _ _
theorem XM(D:Dv)(i:Int):Vk D (D.begin i):=by
 unfold Dv.begin;split<;>exact⟨rfl,rfl,rfl⟩
theorem XN(S:Jj)(i off:Int):Dk S (S.read i off).1:=(pk S i).trans (qF (S:=S.begin i) (XM _ i))
theorem qJ{D:Jj}(d:Dk S.dr D):Mk S { S with dr:=D }:=⟨rfl,d⟩
theorem pr(S:Mi)(x:Me)(Am Bw:Int):Mk S (S.D9 x Am Bw).1:=by
 have r:=qJ (XN S.dr Am x.off);unfold Mi.D9;split
 ·exact r
 ·split
  ·exact r
  ·split
   ·exact r.trans (tj _ _)
   ·exact r
theorem XO(S:Mi)(x:Me):Mk S (S.read x).1:=by
 unfold Mi.read;split
 ·exact Mk.refl _
 ·split
  ·exact pr _ _ _ _
  ·split<;>exact(pr _ _ _ _).trans (pr _ _ _ _)
theorem XP(S:Mi)(x:Me):Mk S (S.check x).1:=by
 unfold Mi.check;split
 ·exact Mk.refl _
 ·split
  ·exact pr _ _ _ _
  ·have c:=(pr S x x.Am x.Bw).trans (pr (S.D9 x x.Am x.Bw).1 x x.Bw x.Am)
   unfold Mi.tl;split
   ·exact c
   ·split<;>exact c
theorem Mi.Wf.Lu(w:B.1.Wf):(Mi.Lu B).Wf:=by
 unfold Mi.Lu;split
 ·exact w.lT
 ·exact w
theorem qK:Vv Me.zero.Am/\Vv Me.zero.Bw:=⟨⟨c_,c_⟩,⟨c_,c_⟩⟩
theorem B_(e:En)(As seq:Int):∀(n:Nat) (S:Mi),S.Wf->Vv (Mi.Rt e As seq n S).2.1.Am/\Vv (Mi.Rt e As seq n S).2.1.Bw
 | 0,S,_=>qK
 | n+1,S,w=>by
  have w1:=w.ready.both e As seq;unfold Mi.Rt;split
  ·exact qK
  ·split
   ·exact w1.rng
   ·split
    ·exact qK
    ·split
     ·exact qK
     ·exact B_ e As seq n _ (w1.Lu.Bq _)
theorem XQ(w:S.Wf)(e:En)(As seq:Int):Vv (S.place e As seq).2.1.Am/\Vv (S.place e As seq).2.1.Bw:=by
 unfold Mi.place;split
 ·exact qK
 ·exact B_ _ _ _ _ _ w
theorem XR(S:Mi)(o:Int)(i:Nat):(iV S o i).2.g=S.g/\(iV S o i).2.dr=S.dr/\(iV S o i).2.bad=S.bad:=by
 unfold iV;split
 ·exact⟨rfl,rfl,rfl⟩
 ·split<;>exact⟨rfl,rfl,rfl⟩
theorem XS:TT.eqs 23=some [0,0,0,0,0,0]:=by kernel_rfl
theorem CA(a:Int):iE a a=true:=by rw[<-wF,tp];simp
theorem XT(g:Gm)(k:EV->R):Jk iF (bin TT .neq 23) (gV g) (gV g) k=k (.bool false):=by
 have h1:jq TT 23 (gV g) (gV g)=some true:=by
  unfold jq gV;rw[XS];simp only[gL,shaped,I];rw[show Nat.beq 0 0=true from rfl];simp only[Aj,Ey,jC,show Nat.beq (Pv .i64) (Pv .i64)=true from rfl,CA]
 show oB k (match jq TT 23 (gV g) (gV g)with|some b=>some (EV.bool (Bb b false true))|none=>none)=_;rw[h1];rfl
structure Ag3(S:Mi)(cur Cn:Nat->Int):Prop where
 cur:∀i,i<3->cur i = -1\/D4 S.g (cur i)=i
 Cn:∀i,i<3->Cn i = -1\/D4 S.g (Cn i)=i
theorem Ag3.iV(a:Ag3 S cur Cn)(w:S.Wf)(hi:i<3):(iV S (Cn i) i).1 = -1\/D4 S.g (iV S (Cn i) i).1=i:=by
 have:=w.sm.d0;unfold Ev.iV;split
 ·exact a.Cn i hi
 ·split
  ·exact .inl rfl
  next z r e=>
   exact .inr (w.ps i a_ z (by rw[e];exact aW ..)).1
theorem tq(s:Sm g){z:Int}(h:D4 g z=i):0<=z/\z<g.D*g.Z:=by
 rcases lU s z with y|⟨_,_,_,a,b⟩
 ·omega
 ·exact⟨a,b⟩
section
structure iW(h h':Ab)(ar m:Nat)(S:Mi)(F:Nat->Prop)(S':Mi)(cur' old':Nat->Int):Prop where
 kk:Mk S S'
 an:Ag3 S' cur' old'
 M:C8 h' m S' F
 A:h'.get ar=some (.cells (arC m cur' old') 126)
 c:Aw (fun j=>¬F j\/j=ar) h h'
 hb:HB h'
theorem iW.trans {h2 f:Ab}{U:Mi}{c1 o1 c2 o:Nat->Int}(a:iW h1 h2 ar m S F T c1 o1)(b:iW h2 f ar m T F U c2 o):iW h1 f ar m S F U c2 o:=⟨a.kk.trans b.kk,b.an,b.M,b.A,a.c.trans b.c,b.hb⟩
theorem iW.less {h2:Ab}{F':Nat->Prop}{c1 o1:Nat->Int}(a:iW h1 h2 ar m S F T c1 o1)(s:∀i,F' i->F i):iW h1 h2 ar m S F' T c1 o1:=⟨a.kk,a.an,a.M.less s,a.A,a.c.mono fun i hi=>hi.imp (fun y w=>y (s i w)) id,a.hb⟩
theorem Ag3.of(a:Ag3 S cur Cn)(g:T.g=S.g):Ag3 T cur Cn:=⟨by rw[g];exact a.cur,by rw[g];exact a.Cn⟩
theorem Ag3.wG(a:Ag3 S cur Cn){z:Int}(f:z = -1\/D4 S.g z=i):Ag3 S cur (Nd Cn i z):=⟨a.cur,fun j hj=>by
 unfold Nd;split
 next e=>subst e;exact f
 ·exact a.Cn j hj⟩
theorem Ag3.setCur(a:Ag3 S cur Cn){z:Int}(f:z = -1\/D4 S.g z=i):Ag3 S (Nd cur i z) Cn:=⟨fun j hj=>by
 unfold Nd;split
 next e=>subst e;exact f
 ·exact a.cur j hj,a.Cn⟩
theorem Ag3.A53(a:Ag3 S cur Cn)(w:S.Wf)(hi:i<3)(h:¬(Ev.iV S (Cn i) i).1 = -1):D4 S.g (Ev.iV S (Cn i) i).1=i/\¬S.bad (Ev.iV S (Cn i) i).1.toNat=1:=by
 have:=w.sm.d0;have hd:=(a.iV w hi).resolve_left h;refine⟨hd,?_⟩;revert h hd;unfold Ev.iV;split
 next f=>
  intro h hd;exact BU f.2 (by show 0<=D4 S.g (Cn i);rw[hd];omega)
 ·split
  ·intro h;exact absurd rfl h
  next z r e=>
   intro _ _;exact(w.ps i a_ z (by rw[e];exact aW ..)).2
theorem XU(w:T.Wf){z:Int}(g:T.g=S.g)(b:T.bad=S.bad)(a:0<=D4 S.g z)(hb:¬S.bad z.toNat=1):j7 (T.Bq z).1.bad (S.g.D*S.g.Z).toNat<j7 S.bad (S.g.D*S.g.Z).toNat:=by
 have:=CB w (z:=z) (by rw[g];exact a) (by rw[b];exact hb);rw[b,g]at this;exact this
theorem CC(P:Nat->Prop)(S:Mi)(z u:Int):Wg P S.dr (S.leave z u).1.dr:=by
 unfold Mi.leave;split
 ·exact Wg.refl _ _
 ·split
  ·exact Wg.refl _ _
  ·exact wv _ _ _
theorem XV(P:Nat->Prop)(S:Mi):Wg P S.dr S.close.1.dr:=by
 unfold Mi.close;exact(CC P { S with a:=-1,b:=-1,u:=0 } S.a S.u).trans (CC P _ S.b S.u)
theorem XW(P:Nat->Prop)(S:Mi)(z:Int):Wg P S.dr (S.Bq z).1.dr:=by
 unfold Mi.Bq;split
 ·exact Wg.refl _ _
 ·split
  ·exact Wg.refl _ _
  ·split
   ·exact Wg.refl _ _
   ·exact XV P (S.mark z)
structure wH(es:List Me)(x y z:Int)(i:Nat)(S S':Mi)(cur cur':Nat->Int)(ok:Bool):Prop where
 cur:∀j,¬j=i->cur' j=cur j
 on:Wg (fun w=>D4 S.g (w:Int)=i) S.dr S'.dr
 ok:ok=true->D4 S.g (cur' i)=i/\(S.dr.ev = []->S.dr.dv.has (cur' i)=true/\(S'.dr.dv.zs (cur' i).toNat).l=Bn2 S.g es x y z (cur' i))
section
variable (A:Ca disp)(hK:10000<K){ll:Nat}(fA:F ar)(fb:F b/\F ml/\F ll/\b≠ar/\ml≠ar/\ll≠ar){x z:Int}(hR:snR x y z es=true)(hi:i<3)
include A hK fA fb hR hi
theorem XX(hd:18<=d)(ft:F t)(ta:t≠ar):∀(n f:Nat) (h:Ab) (S:Mi) (cur Cn:Nat->Int),j7 S.bad (S.g.D*S.g.Z).toNat<=n->n<f->C8 h m S F->HB h->h.get ar=some (.cells (arC m cur Cn) 126)->h.get t=some (.cells [I x,I y,I z,.ptr b 0] 58)->K7 h b ml ll S.g es->rtB S.g=true->0<S.dr.dv.size->Ag3 S cur Cn ->
 Ok (Kz (Ag TT disp K d false) (Ag TT disp K d true) K f (.ptr ar 0) (I i) (.ptr t 0) h) fun v h'=>∃(ok:Bool) (e:Int) (S':Mi) (cur' old':Nat->Int),v=.tuple [.bool ok,I e]/\iW h h' ar m S F S' cur' old'/\wH es x y z i S S' cur cur' ok:=by
 intro n;induction n using Nat.strongRecOn with
 | ind n ih=>
 intro f h S cur Cn hn hf M hb hA gt mp hr hs an;obtain⟨f,rfl⟩:=d_ f;have sm:=M.wf.sm;have ro:Vv (Cn i):=by
  rcases an.Cn i hi with w|w
  ·rw[w];exact⟨a_,a_⟩
  ·exact pt sm
 rw[Kz];refine(XG (K:=K) hK M hb hA fA hi ro).Al ?_;rintro _ h2 ⟨rfl,M2,V,c2,W⟩;obtain⟨p,U,tb⟩:=XR S (Cn i) i;have A53:=an.A53 M.wf hi;generalize iV S (Cn i) i=t' at M2 p U tb A53⊢;obtain⟨a,T⟩:=t';simp only at M2 p U tb A53⊢;have ab:Mk S T:=⟨p,by rw[U];exact Dk.refl _⟩;have G:Ag3 T cur (Nd Cn i (-1)):=(an.of p).wG (.inl rfl);have a2:iW h h2 ar m S F T cur (Nd Cn i (-1)):=⟨ab,G,M2,V,c2,W⟩;simp only[I,Ac];by_cases hm:a = -1
 ·subst hm
  simp only[aB,Aa];exact .ret ⟨_,_,_,_,_,rfl,a2,fun _ _=>rfl,by rw[U];exact Wg.refl _ _,fun y=>by cases y⟩
 obtain⟨X,aw⟩:=A53 hm;have Y:D4 T.g a=i:=by rw[p];exact X
 have hz:=tq (g:=T.g) (by rw[p];exact sm) Y;simp only[hm,aA,Aa,CE];have ay:=c2.at hb gt fun w=>w.elim (fun w=>w ft) ta
 rw[Cv ay rfl,Ai (n:=4) rfl]
 try simp only[Aa]
 have az:K7 h2 b ml ll T.g es:=by
  rw[p];exact mp.frame (c2.get _ (hb _ _ mp.map) fun w=>w.elim (fun w=>w fb.1) fb.2.2.2.1) (c2.get _ (hb _ _ mp.row) fun w=>w.elim (fun w=>w fb.2.1) fb.2.2.2.2.1) (c2.get _ (hb _ _ mp.live) fun w=>w.elim (fun w=>w fb.2.2.1) fb.2.2.2.2.2)
 have a1:rtB T.g=true:=by rw[p];exact hr
 have a6:0<T.dr.dv.size:=by rw[U];exact hs
 have fl:=XD (K:=K) A hK M2 W V fA a1 az hR hz.1 hz.2 (d:=d) a_ a6;simp only[I]at fl;refine fl.Al ?_;rintro _ h3 ⟨e3,E,rfl,M3,c3,a7,a8,k3,u⟩;have ba:((a.toNat:Nat):Int)=a:=dV hz.1;have C:Wg (fun w=>D4 S.g (w:Int)=i) S.dr E:=by
  rw[<-U];exact a7.mono fun w hw=>by rw[hw,ba];exact X
 have o:=k3.at W V fA;have l3:=u _ _ o;have ae:Mk S { T with dr:=E }:=ab.trans (qJ c3);have bb:Aw (fun j=>¬F j\/j=ar) h2 h3:=k3.mono fun j hj=>.inl hj
 have a3:iW h h3 ar m S F { T with dr:=E } cur (Nd Cn i (-1)):=⟨ae,G.of rfl,M3,o,c2.trans bb,u⟩;have put:∀(c' o':Nat->Int),Ag3 T c' o'->iW h (h3.put ar (.cells (arC m c' o') 126)) ar m S F { T with dr:=E } c' o':=fun c' o' bf=>
  ⟨ae,bf.of rfl,M3.iv (T:=fun j=>j=ar) ((Aw.refl (S:=fun j=>j=ar) h3).Ao (.inl rfl) l3 _) fun j hj _=>hj▸fA,Af _ _ _,a3.c.Ao (.inl (.inr rfl)) l3 _,u.put l3 _⟩
 simp only[Aa,I,Ac];by_cases h0:e3=0
 ·simp only[h0,aB,Aa]
  rw[Vo hi]
  try simp only[Aa]
  rw[dI,I6 l3,Ak o rfl (BS hi)]
  try simp only[Aa,Ar]
  rw[Ax (l:=[.int .i64 a,I (cur i)]) rfl]
  try simp only[Aa,Ar]
  rw[Vo hi]
  try simp only[Aa,Ar]
  rw[Hc];refine Ok.st (arC m (Nd cur i a) (Nd (Nd Cn i (-1)) i (cur i))) o rfl rfl (wy hi a (cur i)) ?_;have ci:Nd cur i a i=a:=by unfold Nd;rw[aN rfl]
  exact .ret ⟨true,0,_,_,_,rfl,put _ _ ((G.setCur (.inr Y)).wG ((an.of p).cur i hi)),fun j hj=>(by unfold Nd;rw[aK hj]),C,fun _=>⟨by rw[ci];exact X,fun ev=>by rw[ci,<-p,<-U];exact a8 h0 (by rw[U];exact ev)⟩⟩
 simp only[h0,aA,Aa,Ac];by_cases af:e3=34
 ·simp only[af,aB,Aa]
  rw[Vo hi]
  try simp only[Aa]
  refine Ok.Z7 o rfl rfl (by show _<7;omega) ?_;rw[show EV.int .i64 a=I a from rfl,BT hi];exact .ret ⟨false,34,_,_,_,rfl,put _ _ (G.wG (.inr Y)),fun _ _=>rfl,C,fun y=>by cases y⟩
 simp only[af,aA,Aa,CF];rw[Ak o rfl (v:=.ptr m 0) rfl];have rz:Vv a:=pt sm;have q:=Y7 A hK M3 u (d:=d) a_ rz;simp only[I]at q;refine q.Al ?_;rintro _ h4 ⟨rfl,M4,k4,ag⟩;have aa:=tj { T with dr:=E } a;have ah:=k4.at u o fA;have bj:Aw (fun j=>¬F j\/j=ar) h3 h4:=k4.mono fun j hj=>.inl hj
 have a4:=a3.trans ⟨aa,a3.an.of aa.g,M4,ah,bj,ag⟩;have J:=C.trans (XW (fun w=>D4 S.g (w:Int)=i) { T with dr:=E } a);simp only[Ac];by_cases hq:(Mi.Bq { T with dr:=E } a).2=34
 ·simp only[hq,aB,Aa]
  exact .ret ⟨_,_,_,_,_,rfl,a4,fun _ _=>rfl,J,fun y=>by cases y⟩
 simp only[hq,aA,Aa];have gS:(Mi.Bq { T with dr:=E } a).1.g=S.g:=aa.g.trans p;have less:=XU M3.wf (z:=a) (S:=S) p tb a_ aw;have bk:=a4.c.at hb gt fun w=>w.elim (fun w=>w ft) ta
 have bn:K7 h4 b ml ll (Mi.Bq { T with dr:=E } a).1.g es:=by
  rw[gS];exact mp.frame (a4.c.get _ (hb _ _ mp.map) fun w=>w.elim (fun w=>w fb.1) fb.2.2.2.1) (a4.c.get _ (hb _ _ mp.row) fun w=>w.elim (fun w=>w fb.2.1) fb.2.2.2.2.1) (a4.c.get _ (hb _ _ mp.live) fun w=>w.elim (fun w=>w fb.2.2.1) fb.2.2.2.2.2)
 refine(ih (j7 (Mi.Bq { T with dr:=E } a).1.bad (S.g.D*S.g.Z).toNat) a_ f h4 _ _ _ (by rw[gS];exact aD _) a_ M4 ag ah bk bn (by rw[gS];exact hr) (by rw[a4.kk.dr.size];exact hs) a4.an).mono ?_;rintro _ h5 ⟨ok,e,S',cur',old',rfl,a5,c5,ai,O⟩;rw[gS]at ai O;exact⟨ok,e,S',cur',old',rfl,a4.trans a5,c5,J.trans ai,fun y=>⟨(O y).1,fun ev=>⟨by rw[<-((O y).2 (J ev).1).1];show decide _=decide _;rw[a4.kk.dr.n],((O y).2 (J ev).1).2⟩⟩⟩
theorem XY(hd:19<=d)(M:C8 h m S F)(hb:HB h)(hA:h.get ar=some (.cells (arC m cur Cn) 126))(mp:K7 h b ml ll S.g es)(hr:rtB S.g=true)(hs:0<S.dr.dv.size)(an:Ag3 S cur Cn):
 Ok (Ag TT disp K d false 95 [.ptr ar 0,I i,.agg [I x,I y,I z,.ptr b 0]] h) fun v h'=>∃(ok:Bool) (e:Int) (S':Mi) (cur' old':Nat->Int),v=.tuple [.bool ok,I e]/\iW h h' ar m S F S' cur' old'/\wH es x y z i S S' cur cur' ok:=by
 obtain⟨e,rfl⟩:=d_ d;have sm:=M.wf.sm;rw[XZ A a_];simp only[CG,Aa];obtain⟨h1,C,f,E,G⟩:=nW h (.cells [I x,I y,I z,.ptr b 0] 58);rw[C];have p:=f.hb hb;have U:=hb _ _ hA;have J:C8 h1 m S (fun j=>F j\/j=h.next):=(M.ext hb f).less fun j hj=>by
  rcases hj with hj|hj
  ·exact .inl hj
  ·exact .inr ⟨a_,a_⟩
 have u:=mp.frame (f.get _ (hb _ _ mp.map) id) (f.get _ (hb _ _ mp.row) id) (f.get _ (hb _ _ mp.live) id);have V:=CH S.bad (S.g.D*S.g.Z).toNat;have:=sm.d0;have:=sm.d1;have:=sm.z0;have:=sm.z1;obtain⟨W,X⟩:=Rp (a:=S.g.D) (b:=S.g.Z) (A:=8) (B:=64);refine(XX (K:=K) (F:=fun j=>F j\/j=h.next) A hK (.inl fA) ⟨.inl fb.1,.inl fb.2.1,.inl fb.2.2.1,fb.2.2.2⟩ hR hi (d:=e) a_ (t:=h.next) (.inr rfl) a_ _ K h1 S cur Cn (aD _) a_ J p (f.at hb hA) E u hr hs an).mono ?_;rintro _ h2 ⟨ok,e,S',cur',old',rfl,a,O⟩;have o:=a.less (F':=F) fun i=>.inl
 exact⟨ok,e,S',cur',old',rfl,⟨o.kk,o.an,o.M,o.A,(Ext.to f).trans o.c,o.hb⟩,O⟩
end
end
def ku(es:List Me)(x y z:Int)(S:Mi)(cur:Nat->Int)(j:Nat):Prop:=D4 S.g (cur j)=j/\S.dr.dv.has (cur j)=true/\(S.dr.dv.zs (cur j).toNat).l=Bn2 S.g es x y z (cur j)
def kv(J:Nat->Bool):Nat->Nat
 | 0=>0
 | n+1=>kv J n+(if J n=true then 1 else 0)
def Akf(es:List Me)(x y z:Int)(S:Mi)(cur:Nat->Int)(i n:Nat):Prop:=∃J:Nat->Bool,n=kv J i/\∀j,j<i->J j=true->ku es x y z S cur j
theorem Akf.none{x z:Int}:Akf es x y z S cur 0 0:=⟨fun _=>false,rfl,fun j hj=>absurd hj (cT _)⟩
theorem CI {J a:Nat->Bool}:∀n,(∀j,j<n->J j=a j)->kv J n=kv a n
 | 0,_=>rfl
 | n+1,h=>by unfold kv;rw[CI n fun j hj=>h j (fP hj),h n (aO n)]
theorem ku.Hb{x z:Int}(h:ku es x y z S cur j)(g:T.g=S.g)(n:T.dr.dv.n=S.dr.dv.n)(c:cur' j=cur j)(l:(T.dr.dv.zs (cur j).toNat).l=(S.dr.dv.zs (cur j).toNat).l):ku es x y z T cur' j:=by
 unfold ku at *;rw[g,c,l,show T.dr.dv.has (cur j)=S.dr.dv.has (cur j) by show decide _=decide _;rw[n]];exact h
theorem Akf.step{x z:Int}{ok:Bool}(h:Akf es x y z S cur i n)(a:wH es x y z i S T cur cur' ok)(g:T.g=S.g)(nn:T.dr.dv.n=S.dr.dv.n)(ev:S.dr.ev = [])(sm:Sm S.g):Akf es x y z T cur' (i+1) (if ok=true then n+1 else n):=by
 obtain⟨J,e,C⟩:=h;refine⟨fun j=>if j=i then ok else J j,?_,fun j hj f=>?_⟩
 ·have e1:kv (fun j=>if j=i then ok else J j) i=kv J i:=CI i fun j hj=>aK a_
  show _=kv (fun j=>if j=i then ok else J j) i+(if(if i=i then ok else J i)=true then 1 else 0);rw[e1,<-e,aN rfl];cases ok<;>rfl
 ·by_cases o:j=i
  ·subst o
   have f:(if j=j then ok else J j)=true:=f;rw[aN rfl]at f;obtain⟨E,u⟩:=a.ok f;unfold ku;rw[g];exact⟨E,by rw[<-(u ev).1];show decide _=decide _;rw[nn],(u ev).2⟩
  ·have f:(if j=i then ok else J j)=true:=f
   rw[aK o]at f;have p:=C j a_ f;refine p.Hb g nn (a.cur j o) ((a.on ev).2 _ fun y=>?_);have:=tq sm p.1;have y:D4 S.g (((cur j).toNat:Nat):Int)=i:=y;rw[dV this.1,p.1]at y;omega
structure X'(es:List Me)(x y z:Int)(S S':Mi)(cur cur':Nat->Int)(e:Int):Prop where
 ev:S.dr.ev = []->S'.dr.ev = []
 held:S.dr.ev = []->e=0->snR x y z es=true/\∃n,2<=n/\Akf es x y z S' cur' 3 n
section
variable (A:Ca disp)(hK:10000<K){ll:Nat}(fA:F ar)(fb:F b/\F ml/\F ll/\b≠ar/\ml≠ar/\ll≠ar){x z:Int}
include A hK fA fb
theorem X_(hd:19<=d)(hR:snR x y z es=true)(ft:F t)(ta:t≠ar):∀(f i n:Nat) (h:Ab) (S:Mi) (cur Cn:Nat->Int),3-i<f->i<=3->n<=i->(q0->S.dr.ev = []/\Akf es x y z S cur i n)->C8 h m S F->HB h->h.get ar=some (.cells (arC m cur Cn) 126)->h.get t=some (.cells [I x,I y,I z,.ptr b 0] 58)->K7 h b ml ll S.g es->rtB S.g=true->0<S.dr.dv.size->Ag3 S cur Cn ->
 Ok (Ir (Ag TT disp K d false) (Ag TT disp K d true) K f (.ptr ar 0) (.ptr t 0) (I n) (I i) h) fun v h'=>∃(C e:Int) (S':Mi) (cur' old':Nat->Int),v=.tuple [I C,I e]/\iW h h' ar m S F S' cur' old'/\(q0->S'.dr.ev = []/\(e=0->∃n,2<=n/\Akf es x y z S' cur' 3 n)):=by
 intro f;induction f with
 | zero=>intro i n h S cur Cn hf;omega
 | succ f ih=>
  intro i n h S cur Cn hf hi hn U M hb hA gt mp hr hs an;rw[Ir];simp only[I,Ac];by_cases W:i<3
  ·have:decide ((i:Int)<3)=true:=by simp;omega
   simp only[this,Aa,CJ];rw[Cv gt rfl,Ai (n:=4) rfl];simp only[Aa];have E:=XY (K:=K) A hK fA fb hR W hd M hb hA mp hr hs an;simp only[I]at E;refine E.Al ?_;rintro _ h2 ⟨ok,e,S2,u,G,rfl,o,ax⟩;have p:q0->S2.dr.ev = []/\Akf es x y z S2 u (i+1) (if ok=true then n+1 else n):=fun q=>⟨(ax.on (U q).1).1,(U q).2.step ax o.kk.g o.kk.dr.n (U q).1 M.wf.sm⟩
   simp only[Aa,Ac];by_cases he:e=0
   ·simp only[he,aC,aA,Aa,CK]
    have X:K7 h2 b ml ll S2.g es:=by
     rw[o.kk.g];exact mp.frame (o.c.get _ (hb _ _ mp.map) fun w=>w.elim (fun w=>w fb.1) fb.2.2.2.1) (o.c.get _ (hb _ _ mp.row) fun w=>w.elim (fun w=>w fb.2.1) fb.2.2.2.2.1) (o.c.get _ (hb _ _ mp.live) fun w=>w.elim (fun w=>w fb.2.2.1) fb.2.2.2.2.2)
    have Y:=o.c.at hb gt fun w=>w.elim (fun w=>w ft) ta
    have nx:∀C,C<=n+1->(q0->S2.dr.ev = []/\Akf es x y z S2 u (i+1) C)->Ok (Uw (Ag TT disp K d false) (Ag TT disp K d true) K (Ir (Ag TT disp K d false) (Ag TT disp K d true) K f) (.ptr ar 0) (.ptr t 0) (I (C:Nat)) (.int .i64 (i:Int)) h2) fun v h'=>∃(C e:Int) (S':Mi) (cur' old':Nat->Int),v=.tuple [I C,I e]/\iW h h' ar m S F S' cur' old'/\(q0->S'.dr.ev = []/\(e=0->∃n,2<=n/\Akf es x y z S' cur' 3 n)):=by
     intro C aj aa;simp only[Uw,Ac];rw[Ci,show((i:Nat):Int)+1=((i+1:Nat):Int) from a_];refine(ih (i+1) C h2 S2 u G a_ a_ a_ aa o.M o.hb o.A Y X (by rw[o.kk.g];exact hr) (by rw[o.kk.dr.size];exact hs) o.an).mono ?_;rintro _ h3 ⟨n3,e3,S',cur',old',rfl,a3,r3⟩;exact⟨n3,e3,S',cur',old',rfl,o.trans a3,r3⟩
    cases ok with
    | true=>
     simp only[Aa,Ac];rw[Ci,show((n:Nat):Int)+1=((n+1:Nat):Int) from a_];exact nx (n+1) (aD _) p
    | false=>
     simp only[Aa];exact nx n a_ p
   ·simp only[he,aH,aB,Aa]
    exact .ret ⟨0,e,_,_,_,rfl,o,fun q=>⟨(p q).1,fun y=>absurd y he⟩⟩
  ·have:i=3:=a_
   subst this;have:decide (((3:Nat):Int)<3)=false:=rfl;simp only[this,Aa,CL];rw[Ak hA rfl (v:=.ptr m 0) rfl];obtain⟨D,V,dr⟩:=nO A hK M hb;rw[dr.C0];refine(dr.flush (d:=d) a_).Al ?_;rintro _ h2 ⟨rfl,M2,k2,ab⟩;have o:iW h h2 ar m S F { S with dr:=S.dr.flush.1 } cur Cn:=⟨qJ (qG _),an.of rfl,M2,k2.at hb hA fA,k2.mono fun j hj=>.inl hj,ab⟩;have p:q0->S.dr.flush.1.ev = []/\Akf es x y z { S with dr:=S.dr.flush.1 } cur 3 n:=fun q=>by
    obtain⟨a,J,b,c⟩:=U q;obtain⟨o1,o2⟩:=BD (fun _=>False) S.dr a;exact⟨o1,J,b,fun j hj hx=>(c j hj hx).Hb (cur':=cur) rfl (qG S.dr).n rfl (o2 _ id)⟩
   generalize S.dr.flush.2=e;simp only[I,Ac];by_cases he:e=0
   ·simp only[he,aC,aA,Aa,CM,Ac]
    by_cases O:(n:Int)<2
    ·simp only[O,aB,Aa]
     exact .ret ⟨_,40,_,_,_,rfl,o,fun q=>⟨(p q).1,fun y=>absurd y c_⟩⟩
    ·simp only[O,aA,Aa,CN]
     exact .ret ⟨_,0,_,_,_,rfl,o,fun q=>⟨(p q).1,fun _=>⟨n,a_,(p q).2⟩⟩⟩
   ·simp only[he,aH,aB,Aa]
    exact .ret ⟨0,e,_,_,_,rfl,o,fun q=>⟨(p q).1,fun y=>absurd y he⟩⟩
theorem YA(hd:20<=d)(M:C8 h m S F)(hb:HB h)(hA:h.get ar=some (.cells (arC m cur Cn) 126))(mp:K7 h b ml ll S.g es)(hr:rtB S.g=true)(hs:0<S.dr.dv.size)(an:Ag3 S cur Cn):
 Ok (Ag TT disp K d false 53 [.ptr ar 0,.agg [I x,I y,I z,.ptr b 0]] h) fun v h'=>∃(X e:Int) (S':Mi) (cur' old':Nat->Int),v=.tuple [I X,I e]/\iW h h' ar m S F S' cur' old'/\X' es x y z S S' cur cur' e:=by
 obtain⟨e,rfl⟩:=d_ d;have s:=No hr;rw[YB A a_];simp only[CO,Aa];obtain⟨h1,e_,E,W,ah⟩:=nW h (.cells [I x,I y,I z,.ptr b 0] 58);rw[e_];have f:=E.hb hb;have l1:=f _ _ W;have la:=f _ _ (E.at hb hA);rw[I6 l1,Cv W rfl,Ai (n:=4) rfl]
 try simp only[Aa,Ar]
 have u:=mp.frame (E.get _ (hb _ _ mp.map) id) (E.get _ (hb _ _ mp.row) id) (E.get _ (hb _ _ mp.live) id);refine Ok.bE ((wm (K:=K) A (d:=e) a_ a_ s (u.frame (Bv _ _) (Bv _ _) (Bv _ _)) (Cz f) x y z)) (fun _ _ p=>p.2.1) ?_;rintro _ aj h2 ⟨rfl,_⟩ _ C;have O:=C.hb f;have stop:∀h2,Ext h h2->iW h h2 ar m S F S cur Cn:=fun h2 x=>⟨Mk.refl _,an,(M.ext hb x).less fun j (hj:F j)=>Or.inl hj,x.at hb hA,Ext.to x,x.hb hb⟩
 cases hR:snR x y z es with
 | false=>
  simp only[Aa,Ac,Ar,Ph];exact .ret ⟨0,10,_,_,_,rfl,stop _ (E.trans C),id,fun _ y=>absurd y c_⟩
 | true=>
 have g2:=C.at f W;simp only[Aa,Ac,Ar];rw[I6 l1,Ak g2 rfl (v:=.ptr b 0) rfl]
 try simp only[Aa,Ar]
 have Y:=u.frame (C.get _ (f _ _ u.map) id) (C.get _ (f _ _ u.row) id) (C.get _ (f _ _ u.live) id);refine Ok.bE ((P6 (K:=K) (Y.frame (Bv _ _) (Bv _ _) (Bv _ _)) (Cz O)).mono fun _ _ a=>(⟨a.1,a.2.1⟩:_/\_)) (fun _ _ p=>p.2) ?_;rintro _ ao h3 ⟨rfl,_⟩ _ x3;have U:=x3.hb O;have G:Ext h h3:=(E.trans C).trans x3;have ab:=G.at hb hA
 try simp only[Aa,Ar]
 rw[I6 la,Ak ab rfl (v:=.ptr m 0) rfl]
 try simp only[Aa,Ar]
 have M3:=(M.ext hb G).less fun j (hj:F j)=>Or.inl hj
 refine Ok.bE (P7 (K:=K) (M3.same (iG.lift _)) (Cz U)) (fun _ _ p=>p.2) ?_;rintro _ aw h4 ⟨rfl,_⟩ _ x4;have ae:=x4.hb U
 try simp only[Aa,Ar]
 rw[XT];simp only[Ph,Aa,CP];have o:Ext h h4:=G.trans x4;have V:Ext h1 h4:=(C.trans x3).trans x4;have M4:C8 h4 m S (fun j=>F j\/j=h.next):=(M.ext hb o).less fun j hj=>by
  rcases hj with hj|hj
  ·exact .inl hj
  ·have:=V.next
   exact .inr ⟨a_,a_⟩
 have lA:=hb _ _ hA;have af:=mp.frame (o.get _ (hb _ _ mp.map) id) (o.get _ (hb _ _ mp.row) id) (o.get _ (hb _ _ mp.live) id);refine(X_ (K:=K) (F:=fun j=>F j\/j=h.next) A hK (.inl fA) ⟨.inl fb.1,.inl fb.2.1,.inl fb.2.2.1,fb.2.2.2⟩ (d:=e) a_ hR (t:=h.next) (.inr rfl) a_ (q0:=S.dr.ev = []) K 0 0 h4 S cur Cn a_ a_ a_ (fun q=>⟨q,.none⟩) M4 ae (o.at hb hA) (V.at f W) af hr hs an).mono ?_;rintro _ h5 ⟨X,e',S',cur',old',rfl,a,r⟩;have J:=a.less (F':=F) fun i=>.inl
 exact⟨X,e',S',cur',old',rfl,⟨J.kk,J.an,J.M,J.A,(Ext.to o).trans J.c,J.hb⟩,fun q=>(r q).1,fun q e0=>⟨hR,(r q).2 e0⟩⟩
end
theorem CQ(hi:i<3)(h:Ab):qL K (I i) h=some (.bool true,h):=by
 simp only[qL,CR,I,Ac];have e1:decide (0<=(i:Int))=true:=by simp
 have e2:decide ((i:Int)<3)=true:=by simp;omega
 simp only[e1,e2,Aa,Ac]
section
variable(M:C8 h m S F)(hb:HB h)(hA:h.get ar=some (.cells (arC m cur Cn) 126))
include M hb hA
theorem CS{z:Int}(a:z = -1\/D4 S.g z=i):Ok (Q1 K (.ptr ar 0) (I i) (I z) h) fun v h'=>v=.bool true/\Ext h h':=by
 simp only[Q1,I,Ac];have sm:=M.wf.sm;by_cases h1:z = -1
 ·simp only[h1,aB,Aa,Ac,V7]
  exact .ret ⟨rfl,Aw.refl _⟩
 ·simp only[h1,aA,Aa,Ac,V7]
  rw[Ak hA rfl (v:=.ptr m 0) rfl];refine(P7 (K:=K) M hb).Al ?_;rintro _ h2 ⟨rfl,f⟩;have hd:=a.resolve_left h1;refine(Kb (K:=K) sm z (pt sm) h2).Al ?_;rintro _ p ⟨rfl,o⟩;simp only[I,Ac,hd,aB,Aa];exact .ret ⟨rfl,f.trans o⟩
theorem YC(fA:F ar)(hi:i<3){w:Int}(G:v = -1\/D4 S.g v=i)(hw:w = -1\/D4 S.g w=i)(J:¬v=w):Ok (Ti K (.ptr ar 0) (I i) (I v) (I w) h) fun r h'=>r=I 0/\C8 h' m S F/\h'.get ar=some (.cells (arC m (Nd cur i v) (Nd Cn i w)) 126)/\Aw (fun j=>j=ar) h h'/\HB h':=by
 simp only[Ti,CQ hi,Aa,Ac];refine(CS (K:=K) M hb hA G).Al ?_;rintro _ h2 ⟨rfl,p⟩;have a:=p.hb hb;have M2:=(M.ext hb p).less fun j (hj:F j)=>Or.inl hj
 simp only[Aa,Ac,CT];refine(CS (K:=K) M2 a (p.at hb hA) hw).Al ?_;rintro _ u ⟨rfl,C⟩;have f:=C.hb a;have x:Ext h u:=p.trans C;have O:=(M.ext hb x).less fun j (hj:F j)=>Or.inl hj
 have o:=x.at hb hA;have E:=f _ _ o;simp only[Aa,Ac,CU,I,J,aA,CV,CW,CX,CY];rw[Ax (l:=[I v,I w]) rfl]
 try simp only[Aa]
 rw[Vo hi];refine Ok.st (arC m (Nd cur i v) (Nd Cn i w)) o rfl rfl (wy hi v w) ?_;have c:Aw (fun j=>j=ar) u (u.put ar (.cells (arC m (Nd cur i v) (Nd Cn i w)) 126)):=(Aw.refl (S:=fun j=>j=ar) u).Ao (.inl rfl) E _;exact .ret ⟨rfl,O.iv c fun j hj _=>hj▸fA,Af _ _ _,(Ext.to x).trans c,f.put E _⟩
end
end
end Go.Ev
