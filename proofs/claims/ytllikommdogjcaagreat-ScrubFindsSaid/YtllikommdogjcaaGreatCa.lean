import Derived.Test.YtllikommdogjcaaGreatYa
set_option linter.all false
namespace Go.Ev
noncomputable section
open Go.Proofs
set_option maxRecDepth 100000
variable {h h' h0 h1:Ab}{K P b d e i j m n q t ar b2 l0 ml sz zq:Nat}{g:Gm}{xs:List EV}{kk:Ab->R}{Q:EV->Ab->Prop}{x y zn:Int}{D:Dv}{F G T:Nat->Prop}{k:EV->Ab->R}{Bt cur:Nat->Int}{bl out:List Nat}{v:EV}{tm:Bb}{S':Mi}{nB:EV->EV->EV->Ab->R}{Stop:Ab->Prop}{ex:Nat->Ab->List Nat->R}{disp:Nat->Option FT}
instance:DecidableEq Me:=fun a b=>by
 cases a;cases b;simp only[Me.mk.injEq];exact inferInstance
def Me.nil(s:Int):Me:=⟨s,0,0,0,0,0⟩
def meR(g:Gm)(x:Me):Bool:=if x.state=0\/x.state=2 then decide (x=Me.nil x.state)else if x.state=1 then meB g x else false
def Wi(z:Int)(x:Me):Int:=if x.state=1/\(x.Ai=z\/x.Aw=z)then 1 else 0
def Ka(es:List Me)(z:Int):Int:=(es.map (Wi z)).foldr (· + ·) 0
theorem Qa(x:Me)(es:List Me)(z:Int):Ka (x::es) z=Wi z x+Ka es z:=rfl
theorem wF(z:Int)(x:Me):0<=Wi z x/\Wi z x<=1:=by unfold Wi;split<;>omega
theorem pW(z:Int):∀es:List Me,0<=Ka es z/\Ka es z<=es.length
 | []=>⟨cN _,cN _⟩
 | x::es=>by
  have:=pW z es;have:=wF z x;rw[Qa,bJ];omega
theorem A_(z:Int)(y:Me):∀(es:List Me) (j:Nat) (hj:j<es.length),Ka (es.set j y) z=Ka es z-Wi z es[j]+Wi z y
 | x::es,0,_=>by
  rw[List.set_cons_zero,Qa,Qa];show Wi z y+Ka es z=Wi z x+Ka es z-Wi z x+Wi z y;omega
 | x::es,j+1,hj=>by
  have a:j<es.length:=by simpa using hj
  rw[List.set_cons_succ,Qa,Qa,A_ z y es j a];show _=Wi z x+Ka es z-Wi z es[j]+Wi z y;omega
structure Oh(h:Ab)(b ml ll:Nat)(g:Gm)(es:List Me):Prop where
 map:h.get b=some (.cells (gL g++[.slice ml 0 g.B.toNat g.B.toNat false,.slice ll 0 (g.D*g.Z).toNat (g.D*g.Z).toNat false]) 94)
 row:h.get ml=some (.cells (es.map Me.cells).flatten 38)
 live:h.get ll=some (.cells ((List.range (g.D*g.Z).toNat).map fun(z:Nat)=>I (Ka es z)) 3)
 len:es.length=g.B.toNat
 ok:∀x∈es,meR g x=true
theorem Oh.frame{ll:Nat}{es:List Me}(m:Oh h b ml ll g es)(e1:h'.get b=h.get b)(e2:h'.get ml=h.get ml)(e3:h'.get ll=h.get ll):Oh h' b ml ll g es:=⟨by rw[e1];exact m.map,by rw[e2];exact m.row,by rw[e3];exact m.live,m.len,m.ok⟩
theorem Oh.ext{ll:Nat}{es:List Me}(m:Oh h b ml ll g es)(e:∀i o,h.get i=some o->h'.get i=some o):Oh h' b ml ll g es:=⟨e _ _ m.map,e _ _ m.row,e _ _ m.live,m.len,m.ok⟩
theorem XX:∀(l:List (List EV)) (j:Nat) (x:List EV),(∀x∈l,x.length=n)->l[j]? = some x->Ou l.flatten (j*n) n=some x:=by
 have len:∀l:List (List EV),(∀x∈l,x.length=n)->l.flatten.length=l.length*n:=fun l=>by
  induction l with
  | nil=>intro _;simp
  | cons a r o=>intro h;rw[cK,aF,h a (aW ..),o fun x f=>h x (aT _ f),bJ,gW];omega
 intro l j x p f;have hj:=(aY.1 f).1;rw[F9 (by rw[len l p];have:=Nat.mul_le_mul_right n (show j+1<=l.length from hj);rw[gW]at this;exact this)];congr 1;induction l generalizing j with
 | nil=>cases f
 | cons a r o=>
  have u:=p a (aW ..);cases j with
  | zero=>
   rw[bL]at f;cases f;rw[gX,dE,cK,<-u,fN]
  | succ j=>
   rw[bm]at f;rw[cK,gW,show j*n+n=a.length+j*n from a_,<-cV,gS];exact o j (fun x f=>p x (aT _ f)) f (aY.1 f).1
theorem tR(es:List Me)(hj:j<es.length):Ou (es.map Me.cells).flatten (j*6) 6=some es[j].cells:=
 XX (n:=6) (es.map Me.cells) j es[j].cells (fun y a=>by obtain⟨z,_,rfl⟩:=dK.1 a;rfl) (by rw[bH,aD hj];rfl)
def U7(es:List Me)(j:Int):Me × Int:=if 0<=j/\j<es.length then((es[j.toNat]?).getD (Me.nil 0),0)else(Me.nil 0,13)
theorem Ok.Bd{z:List EV}(hg:h.get i=some (.cells z t))(f:z.length=n)(a:xs.length=n)(o:Ok (kk (h.put i (.cells xs t))) Q):Ok (hQ n (.ptr i 0) (.agg xs) h kk) Q:=
 Ok.st xs hg rfl (by show Gk xs=n;rw[Bg,a]) (Bo (by show z.length=xs.length;rw[a,f])) o
theorem Oj{ll:Nat}{es:List Me}(s:Sm g)(m:Oh h b ml ll g es)(hb:HB h)(j:Int):Ok (Gp K (.ptr b 0) (I j) h) fun v h'=>v=.tuple [.agg (U7 es j).1.cells,I (U7 es j).2]/\Ext h h':=by
 have:=s.b0;have:=s.b1;simp only[Gp,I,Aa,Ac];rw[show[EV.int .i64 0,.int .i64 0,.int .i64 0,.int .i64 0,.int .i64 0,.int .i64 0]=(Me.nil 0).cells from rfl];obtain⟨h1,J,a,p,_⟩:=nW h (.cells (Me.nil 0).cells 38);rw[J];have f:=a.hb hb;have u:=a.at hb m.map;have O:=a.at hb m.row;have U:=f _ _ p;have st:∀(x:Me) (e:Int),Ok (hQ 6 (.ptr h.next 0) (.agg x.cells) h1 fun o=>J5 TT [.c (.ptr h.next 0) 38,.v (.int .i64 e)] o) fun v h'=>v=.tuple [.agg x.cells,I e]/\Ext h h':=by
  intro x e;refine Ok.Bd p rfl rfl ?_;rw[Em (Ae _ _ _) lr.1 lr.2 rfl];exact .ret ⟨rfl,a.Ar (.inr (aE _)) U _⟩
 unfold U7;by_cases c0:j<0
 ·have V:Eu (.tuple []) false=false/\Eu (.tuple []) true=false:=⟨rfl,rfl⟩
  simp only[c0,aC,Aa,Ac,wG];rw[Ay (l:=(Me.nil 0).cells) rfl,aG a_];exact st _ 13
 simp only[c0,aA,Aa,Ac];rw[Aj u rfl (v:=.slice ml 0 g.B.toNat g.B.toNat false) rfl];rw[show ∀k:EV->R,Ip (.slice ml 0 g.B.toNat g.B.toNat false) k=k (I g.B.toNat)from fun _=>rfl];simp only[I,Ac,Aa,wG];have hlen:=m.len;by_cases W:j<g.B
 ·obtain⟨n,rfl⟩:=av (show 0<=j from a_)
  have E:n<es.length:=a_
  have:decide ((n:Int)≥(g.B.toNat:Int))=false:=by simp;omega
  simp only[this,Aa,BA];rw[Aj u rfl (v:=.slice ml 0 g.B.toNat g.B.toNat false) rfl,On a_,bP,Cp O rfl (tR es E),aI a_];rw[show(es[(n:Int).toNat]?).getD (Me.nil 0)=es[n] by rw[bD,aD E];rfl];exact st _ 0
 ·have:decide ((j:Int)≥(g.B.toNat:Int))=true:=by simp;omega
  simp only[this,Aa];rw[Ay (l:=(Me.nil 0).cells) rfl,aG a_];exact st _ 13
def Zg(g:Gm)(es:List Me)(z:Int):Int:=if 0<=z/\z<g.D*g.Z then Ka es z else 0
theorem wH(n:Nat)(f:Int->Int)(hj:j<n:=by omega):((List.range n).map fun(z:Nat)=>I (f z))[j]? = some (I (f j)):=by
 rw[bH,cX hj];rfl
theorem wI{ll:Nat}{es:List Me}(m:Oh h b ml ll g es)(z:Int):Re K (.ptr b 0) (I z) h=some (I (Zg g es z),h):=by
 simp only[Re,I,Aa,Ac];unfold Zg;by_cases c0:z<0
 ·simp only[c0,aC,Aa,Ac,wJ]
  rw[aG a_]
 simp only[c0,aA,Aa,Ac];rw[Aj m.map rfl (v:=.slice ll 0 (g.D*g.Z).toNat (g.D*g.Z).toNat false) rfl];rw[show ∀k:EV->R,Ip (.slice ll 0 (g.D*g.Z).toNat (g.D*g.Z).toNat false) k=k (I (g.D*g.Z).toNat)from fun _=>rfl];simp only[I,Ac,Aa,wJ];by_cases a:z<g.D*g.Z
 ·obtain⟨n,rfl⟩:=av (show 0<=z from a_)
  have:decide ((n:Int)≥((g.D*g.Z).toNat:Int))=false:=by simp;omega
  simp only[this,Aa,BB];rw[Aj m.map rfl (v:=.slice ll 0 (g.D*g.Z).toNat (g.D*g.Z).toNat false) rfl,On a_,bP,bc,Aj m.live rfl (wH (g.D*g.Z).toNat (Ka es) (j:=n)),aI a_]
 ·have:decide ((z:Int)≥((g.D*g.Z).toNat:Int))=true:=by simp;omega
  simp only[this,Aa];rw[aG a_]
theorem BC:∀(l l':List Int),l.length=l'.length->Fa (l.map I) (l'.map I)=some (decide (l=l'))
 | [],[],_=>rfl
 | a::l,b::l',h=>by
  have f:=BC l l' (by simpa using h);rw[dT,dT];unfold Fa;rw[rv];by_cases h1:a=b
  ·subst h1
   rw[aO rfl];simp only[f,List.cons.injEq,hJ]
  ·rw[aL h1]
   simp only[f];rw[aL fun y=>h1 (List.cons.inj y).1]
def Me.row(x:Me):List Int:=[x.state,x.Ai,x.Aw,x.off,x.seq,x.sum]
theorem Me.XY {x y:Me}:x.row=y.row↔x=y:=by
 cases x;cases y;simp[Me.row]
theorem XZ(x y:Me)(k:EV->R):K3 iT (bin TT .eql 38) (.agg x.cells) (.agg y.cells) k=k (.bool (decide (x=y))):=by
 have he:TT.eqs 38=some [0,0,0,0,0,0]:=by kernel_rfl
 have h1:jN TT 38 (.agg x.cells) (.agg y.cells)=some (decide (x=y)):=by
  show(match TT.eqs 38 with|some sh=>Bc (shaped sh x.cells) (Fa x.cells y.cells) none|none=>none)=_;rw[he];simp only;rw[show shaped [0,0,0,0,0,0] x.cells=true from rfl,Al,show x.cells=x.row.map I from rfl,show y.cells=y.row.map I from rfl,BC x.row y.row rfl];congr 1;rw[eJ];exact Me.XY
 show oB k (match jN TT 38 (.agg x.cells) (.agg y.cells)with|some b=>some (EV.bool b)|none=>none)=_;rw[h1];rfl
theorem X'{x:Me}(hb:HB h)(o:x.state=1->Rng x.Ai/\Rng x.Aw):Ok (Jy K (.agg x.cells) (gV g) h) fun v h'=>v=.bool (meR g x)/\Ext h h':=by
 unfold meR;by_cases s1:x.state=1
 ·rw[aG a_,aI s1]
  exact BD hb s1 (o s1).1 (o s1).2
 ·simp only[Jy,gV,Aa]
  have f:Ext h ((h.new (.cells x.cells 38)).new (.cells (gL g) 23)):=(Av.new _ _).Db _;have a:((h.new (.cells x.cells 38)).new (.cells (gL g) 23)).get h.next=some (.cells x.cells 38):=by
   rw[Az _ (aN _)];exact Ad _ _
  generalize (h.new (.cells x.cells 38)).new (.cells (gL g) 23)=h1 at f a⊢;rw[Aj a rfl (v:=I x.state) rfl];simp only[I,Ac];have eq:∀s,x.state=s->Ok (La K (.ptr h.next 0) (.ptr (h.next+1) 0) (.int .i64 s) (.bool true) h1) fun v h'=>v=.bool (decide (x=Me.nil x.state))/\Ext h h':=fun s hs=>by
   simp only[La,Aa];rw[Cz a rfl,Ak (n:=6) rfl]
   try simp only[Aa]
   rw[Aj a rfl (v:=I x.state) rfl]
   try simp only[Aa]
   rw[Ay (l:=(Me.nil x.state).cells) rfl,XZ];exact .ret ⟨rfl,f⟩
  by_cases h0:x.state=0
  ·rw[aI (.inl h0)]
   simp only[h0,aC,Aa];have:=eq 0 h0;rw[h0]at this;exact this
  ·by_cases h2:x.state=2
   ·rw[aI (.inr h2)]
    simp only[h2,show ¬((2:Int)=0) from c_,aA,aC,Aa];have:=eq 2 h2;rw[h2]at this;exact this
   ·rw[aG a_,aG s1]
    simp only[h0,s1,h2,aA,Aa,La,Ac,BE];exact .ret ⟨rfl,f⟩
theorem X_ {α:Type}(f:Nat->α)(n j:Nat)(v:α):((List.range n).map f).set j v=(List.range n).map fun z=>if z=j then v else f z:=by
 apply dF;intro i;rw[cW,bH,bH];by_cases hi:i<n
 ·rw[cX hi]
  by_cases hj:j=i
  ·subst hj;simp[hi]
  ·simp[hj,cR hj]
 ·rw[cD (by simpa using hi)]
  simp only[bk,fW];split
  ·rw[aG a_];rfl
  ·rfl
theorem YA{x:Me}(h:meR g x=true)(h1:x.state=1):(0<=x.Ai/\x.Ai<g.D*g.Z)/\(0<=x.Aw/\x.Aw<g.D*g.Z)/\¬x.Ai=x.Aw:=by
 unfold meR at h;rw[aG a_,aI h1]at h;unfold meB Sr at h;simp only[aV,Fk,aS]at h;obtain⟨⟨_,⟨a,b⟩,_⟩,⟨_,⟨c,d⟩,_⟩,e,_⟩:=h;exact⟨⟨a,a_⟩,⟨c,a_⟩,fun y=>e (by rw[y])⟩
def pX(f:Int->Int)(z v:Int):Int->Int:=fun y=>if y=z then v else f y
theorem BF(n:Nat)(f:Int->Int)(j:Nat)(v:Int):((List.range n).map fun(z:Nat)=>I (f z)).set j (I v)=(List.range n).map fun(z:Nat)=>I (pX f j v z):=by
 rw[X_];congr 1;funext z;unfold pX;by_cases h:z=j
 ·rw[aI h,aI a_]
 ·rw[aG h,aG a_]
theorem BG{ll:Nat}(hn:g.D*g.Z=n)(ag:n<=512)(hm:h.get b=some (.cells (gL g++[.slice ml 0 g.B.toNat g.B.toNat false,.slice ll 0 n n false]) 94)){f:Int->Int}(hl:h.get ll=some (.cells ((List.range n).map fun(z:Nat)=>I (f z)) 3))(hb:HB h){x:Me}(hx:meR g x=true){by':Int}(ai:by'=1\/by' = -1)(bd:∀z,-1000<=f z/\f z<=1000):
 Ok (To K (.ptr b 0) (.agg x.cells) (I by') h) fun v h'=>v=.tuple []/\h'.get ll=some (.cells ((List.range n).map fun(z:Nat)=>I (f z+by'*Wi z x)) 3)/\Av (fun i=>i=ll) h h'/\HB h':=by
 simp only[To,Aa];obtain⟨h1,e_,U,g4,_⟩:=nW h (.cells x.cells 38);rw[e_];have o:=U.hb hb;have gm:=U.at hb hm;have V:=U.at hb hl;rw[Aj g4 rfl (v:=I x.state) rfl];simp only[I,Ac];by_cases s1:x.state=1
 ·obtain⟨⟨a0,a1⟩,⟨c0,c1⟩,ne⟩:=YA hx s1
  obtain⟨j,hj⟩:=av a0;obtain⟨k,hk⟩:=av c0;have lb:=o _ _ gm;have l4:=o _ _ g4;have p:=o _ _ V;have B1:=bd j;have B2:=bd k;simp only[s1,aC,Aa,As];rw[Hl lb,Aj gm rfl (v:=.slice ll 0 n n false) rfl]
  try simp only[Aa,As]
  rw[Hl l4,Aj g4 rfl (v:=I x.Ai) rfl,hj]
  try simp only[I,Aa,As]
  rw[On a_,bP,bc,Hl p,Aj V rfl (wH n f (j:=j))];simp only[I,Ac,As];rw[Ch,On a_,bP,bc,Hg];refine Ok.hM V rfl rfl (by simp;omega) ?_;have u:(h1.put ll (.cells (((List.range n).map fun(z:Nat)=>I (f z)).set j (I (f j+by'))) 3)).get ll=some (.cells ((List.range n).map fun(z:Nat)=>I (pX f j (f j+by') z)) 3):=by rw[Ae,BF]
  have W:Av (fun i=>i=ll) h1 (h1.put ll (.cells (((List.range n).map fun(z:Nat)=>I (f z)).set j (I (f j+by'))) 3)):=(Av.refl (S:=fun i=>i=ll) h1).Ar (.inl rfl) p _;have nb:b≠ll:=Ba gm V (by intro y;injection y with _ y;cases y);have n4:h.next≠ll:=fun y=>by have:=hb _ _ hl;omega
  have J:=W.at o gm nb;have O:=W.at o g4 n4;rw[show EV.int .i64 (f j+by')=I (f j+by')from rfl];generalize h1.put ll (.cells (((List.range n).map fun(z:Nat)=>I (f z)).set j (I (f j+by'))) 3)=h2 at u W J O⊢;have E:=W.hb o;have lb:=E _ _ J;have l4:=E _ _ O;have p:=E _ _ u;have nk:¬(k:Int)=j:=a_
  have fk:pX f j (f j+by') k=f k:=by unfold pX;rw[aG nk]
  try simp only[As]
  rw[Hl lb,Aj J rfl (v:=.slice ll 0 n n false) rfl]
  try simp only[Aa,As]
  rw[Hl l4,Aj O rfl (v:=I x.Aw) rfl,hk]
  try simp only[I,Aa,As]
  rw[On a_,bP,bc,Hl p,Aj u rfl (wH n _ (j:=k)),fk];simp only[I,Ac,As];rw[Ch,On a_,bP,bc,Hg];refine Ok.hM u rfl rfl (by simp;omega) ?_;refine .ret ⟨rfl,?_,(U.to.trans W).Ar (.inl rfl) p _,E.put p _⟩;rw[Ae];have:(EV.int .i64 (f k+by'))=I (f k+by'):=rfl;rw[this,BF];congr 2;apply cY;intro z _;congr 1;unfold pX Wi;rw[s1,hj,hk];by_cases e1:(z:Int)=k
  ·rw[aI e1,aI ⟨rfl,.inr e1.symm⟩,e1];omega
  ·rw[aG e1]
   by_cases e2:(z:Int)=j
   ·rw[aI e2,aI ⟨rfl,.inl e2.symm⟩,e2];omega
   ·rw[aG e2,aG (fun y=>y.2.elim (fun a=>e2 a.symm) fun a=>e1 a.symm)];omega
 ·simp only[s1,aA,Aa]
  refine .ret ⟨rfl,?_,U.to,o⟩;rw[V];congr 2;apply cY;intro z _;unfold Wi;rw[aG (fun y=>s1 y.1),Int.mul_zero,Int.add_zero]
def mI(g:Gm)(es:List Me)(j:Int)(x:Me):List Me × Int:=if 0<=j/\j<es.length then(if meR g x=true then(es.set j.toNat x,0)else(es,10))else(es,13)
theorem wK{ll:Nat}{es:List Me}(s:Sm g)(m:Oh h b ml ll g es)(hb:HB h){x:Me}(hz:x.state=1->Rng x.Ai/\Rng x.Aw)(j:Int):
 Ok (No K (.ptr b 0) (I j) (.agg x.cells) h) fun v h'=>v=I (mI g es j x).2/\Oh h' b ml ll g (mI g es j x).1/\Av (fun i=>i=ml\/i=ll) h h'/\HB h':=by
 have:=s.b0;have:=s.b1;have:=s.d0;have:=s.d1;have:=s.z0;have:=s.z1;obtain⟨m0,m1⟩:=Rl (a:=g.D) (b:=g.Z) (A:=8) (B:=64);simp only[No,Aa];obtain⟨h1,e_,x1,g5,_⟩:=nW h (.cells x.cells 38);rw[e_];have V:=x1.hb hb;have M1:=m.ext fun i o q=>x1.at hb q
 refine(Oj (K:=K) s M1 V j).Am ?_;rintro _ h2 ⟨rfl,x2⟩;have ae:=x2.hb V;simp only[Aa];refine Ok.Bd (Ad _ _) rfl rfl ?_;obtain⟨h3,e_,x3,g7,_⟩:=nP h2 (.cells [EV.int .i64 0,.int .i64 0,.int .i64 0,.int .i64 0,.int .i64 0,.int .i64 0] 38) (.cells (U7 es j).1.cells 38);rw[e_];have u:=x3.hb ae;have W:Ext h h3:=(x1.trans x2).trans x3;have M3:=m.ext fun i o q=>W.at hb q
 have aa:=x3.at ae (x2.at V g5);unfold mI;have hlen:=m.len;by_cases hj:0<=j/\j<es.length
 ·obtain⟨k,rfl⟩:=av hj.1
  have hk:k<es.length:=a_
  have eg:U7 es (k:Int)=(es[k],0):=by
   unfold U7;rw[aI hj,bD,aD hk];rfl
  rw[eg]at g7⊢;rw[aI hj];simp only[I,Ac,aB,aA,Aa,As];have l5:=u _ _ aa;have lb:=u _ _ M3.map;rw[Hl l5,Cz aa rfl,Ak (n:=6) rfl]
  try simp only[Aa,As]
  rw[Hl lb,Cp M3.map rfl (show Ou (gL g++[.slice ml 0 g.B.toNat g.B.toNat false,.slice ll 0 (g.D*g.Z).toNat (g.D*g.Z).toNat false]) 0 6=some (gL g)from rfl)]
  try simp only[Aa,As]
  rw[show EV.agg (gL g)=gV g from rfl];refine Ok.bE (X' (K:=K) (g:=g) (x:=x) (C8 u) hz) (fun _ _ p=>p.2) ?_;rintro _ b8 h4 ⟨rfl,_⟩ _ x4;have J:=x4.hb u;have ab:Ext h h4:=W.trans x4;have O:=m.ext fun i o q=>ab.at hb q
  by_cases hr:meR g x=true
  ·rw[aI hr,hr]
   simp only[Aa,BH];have a3:=x4.at u g7;have a4:=x4.at u aa;rw[Cz a3 rfl,Ak (n:=6) rfl]
   try simp only[Aa]
   have hn:g.D*g.Z=((g.D*g.Z).toNat:Int):=a_
   have bd:∀z,-1000<=Ka es z/\Ka es z<=1000:=fun z=>by have:=pW z es;omega
   refine(BG (K:=K) (ml:=ml) hn a_ O.map O.live J (x:=es[k]) (m.ok _ (bI hk)) (by':=-1) (.inr rfl) bd).Am ?_;rintro _ h5 ⟨rfl,a5,c5,U⟩;have nb:b≠ll:=Ba O.map O.live (by intro y;injection y with _ y;cases y);have nm:ml≠ll:=Ba O.row O.live (by intro y;injection y with _ y;cases y);have a6:b≠ml:=Ba O.map O.row (by intro y;injection y with _ y;cases y);have af:h.next≠ll:=fun y=>by have:=hb _ _ m.live;omega
   have ca:h.next≠ml:=fun y=>by have:=hb _ _ m.row;omega
   have ag:=c5.at J O.map nb;have a7:=c5.at J O.row nm;have ah:=c5.at J a4 af;rw[Cz ah rfl,Ak (n:=6) rfl]
   try simp only[Aa]
   refine(BG (K:=K) (ml:=ml) hn a_ ag a5 U (x:=x) hr (f:=fun z=>Ka es z + -1*Wi z es[k]) (by':=1) (.inl rfl) (fun z=>by
    show -1000<=Ka es z + -1*Wi z es[k]/\Ka es z + -1*Wi z es[k]<=1000;have:=pW z es;have:=wF z es[k];omega)).Am ?_
   rintro _ h6 ⟨rfl,a9,c6,E⟩;have ad:=c6.at U ag nb;have ai:=c6.at U a7 nm;have aj:=c6.at U ah af;have bb:=E _ _ ad;have bf:=E _ _ aj;have bj:=E _ _ ai
   try simp only[As]
   rw[Hl bb,Aj ad rfl (v:=.slice ml 0 g.B.toNat g.B.toNat false) rfl]
   try simp only[Aa,As]
   rw[Hl bf,Cz aj rfl,Ak (n:=6) rfl]
   try simp only[Aa,As]
   rw[On a_,bP,Hg];have fs:Nb (es.map Me.cells).flatten (k*6) x.cells=some ((es.set k x).map Me.cells).flatten:=by
    rw[BI (n:=6) (fun y hy=>by obtain⟨z,_,rfl⟩:=dK.1 hy;rfl) (by rw[bk];exact hk) rfl,List.map_set]
   refine Ok.st _ ai rfl rfl fs ?_;have c7:Av (fun i=>i=ml) h6 (h6.put ml (.cells ((es.set k x).map Me.cells).flatten 38)):=(Av.refl (S:=fun i=>i=ml) h6).Ar (.inl rfl) bj _;have bp:=c7.at E ad a6;have bq:=c7.at E a9 (cR nm);refine .ret ⟨rfl,⟨bp,Ae _ _ _,?_,by rw[bM];exact hlen,fun y hy=>?_⟩,?_,c7.hb E⟩
   ·rw[bq]
    congr 2;apply cY;intro z _;rw[bD,A_ z x es k hk];congr 1;omega
   ·rcases cZ hy with y'|rfl
    ·exact m.ok _ y'
    ·exact hr
   ·exact(Ext.to ab).trans (((c5.mono fun i e=>.inr e).trans (c6.mono fun i e=>.inr e)).trans (c7.mono fun i e=>.inl e))
  ·have bt:meR g x=false:=by cases h:meR g x<;>simp_all
   rw[aG hr,bt];simp only[Aa];exact .ret ⟨rfl,O,ab.to,J⟩
 ·have eg:U7 es j=(Me.nil 0,13):=by unfold U7;rw[aG hj]
  rw[eg,aG hj];simp only[I,Ac,show ¬((13:Int)=0) from c_,aQ,aC,Aa];exact .ret ⟨rfl,M3,W.to,u⟩
theorem YB{z:Nat}{size:Int}{Z:Zn}(a:Fj h z q size Z)(hb:HB h):
 Ok (He K (.ptr z 0) h) fun v h'=>v=I (Le Z.st)/\Fj h' z q size (if Le Z.st=0 then Zn.empty else Z)/\Av (fun i=>i=z) h h'/\HB h':=by
 obtain⟨s,g,r⟩:=a.Ai;have lz:=hb _ _ g;simp only[He,Xp a,Aa,I,Ac];by_cases hf:Le Z.st=0
 ·simp only[hf,aB,aA,Aa,bK,Ow]
  refine Ok.hM g rfl rfl (by show 0<5;decide) ?_;refine Ok.hM (Ae _ _ _) rfl rfl (by show 2<5;decide) ?_;refine Ok.hM (Ae _ _ _) rfl rfl (by show 3<5;decide) ?_;refine Ok.hM (Ae _ _ _) rfl rfl (by show 4<5;decide) ?_;refine .ret ⟨rfl,⟨⟨.Aq,Ae _ _ _,Ce.nil _ _ _ _⟩,fun x f=>by cases f⟩,((((Av.refl (S:=fun i=>i=z) h).Ar (.inl rfl) lz _).Ar (.inl rfl) lz _).Ar (.inl rfl) lz _).Ar (.inl rfl) lz _,(((hb.put lz _).put lz _).put lz _).put lz _⟩
 ·simp only[hf,aQ,aC,Aa,ak]
  exact .ret ⟨rfl,a,Av.refl _,hb⟩
def Dv.reset(D:Dv)(i:Int):Dv × Int:=
 if D.Fm i≠0 then(D,D.Fm i)else
 (if Le (D.zs i.toNat).st=0 then D.tick.set i.toNat Zn.empty else D.tick,Le (D.zs i.toNat).st)
theorem Zn.Wf.empty {size:Nat}(h:0<size):Zn.empty.Wf size:=⟨fun x a=>(by cases a),by show 0<=4;omega,aE _,cS _,fun _=>h⟩
theorem YC{V:Nat}(d:Hu h V D F)(hb:HB h)(hs:0<D.size)(i:Int):
 Ok (R8 K (.ptr V 0) (I i) h) fun v h'=>v=I (D.reset i).2/\Hu h' V (D.reset i).1 (Bm F h h')/\Av F h h'/\HB h':=by
 simp only[R8,dr];refine(tS (K:=K) d hb i).Am ?_;rintro _ h2 ⟨rfl,d2,c2,p,W⟩;unfold Dv.reset;by_cases f:D.Fm i=0
 ·rw[aG (by rw[f];exact fun y=>y rfl),f]
  have E:D.begin i=D.tick:=by unfold Dv.begin;rw[aI f]
  rw[E]at d2;obtain⟨j,rfl,hj⟩:=Dv.tV f;obtain⟨zl,z,q,a,b⟩:=d2.Ph;obtain⟨O,U⟩:=a.rA (j:=j) hj;simp only[I,Ac,aB,aA,Aa,BJ,a.list,O,U];refine(YB (K:=K) (a.Ai j hj) p).Am ?_;rintro _ h3 ⟨rfl,J,c3,u⟩
  try simp only[Aa]
  rw[show(j:Int).toNat=j from rfl];have J:Fj h3 (z j) (q j) D.size (if Le (D.zs j).st=0 then Zn.empty else D.zs j):=J;by_cases hf:Le (D.zs j).st=0
  ·simp only[hf,bK]at J⊢
   obtain⟨d3,o⟩:=Hu.Ai d2.wf a b d2.lt p hj (Zn.Wf.empty hs) J (c3.mono fun _=>.inl) u (fun y=>absurd rfl y);refine .ret ⟨by rw[show Le (D.tick.zs j).st=Le (D.zs j).st from rfl,hf],d3.mono (fun i hi=>?_) (Bm.lt d.lt (c2.trans o).next),c2.trans o,u⟩;rcases hi with y|y
   ·exact .inl y
   ·exact .inr ⟨bQ c2.next y.1,y.2⟩
  ·simp only[hf,ak]at J⊢
   obtain⟨d3,o⟩:=Hu.Ai d2.wf a b d2.lt p hj (d2.wf.zs j hj) J (c3.mono fun _=>.inl) u (fun y=>.inr ⟨rfl,y⟩);have e:D.tick.set j (D.zs j)=D.tick:=by
    unfold Dv.set;have:Hd D.tick.zs j (D.zs j)=D.tick.zs:=by funext k;unfold Hd;split<;>simp_all [Dv.tick]
    rw[this]
   have d3:Hu h3 V (D.tick.set j (D.zs j)) (Bm F h2 h3):=d3;rw[e]at d3;refine .ret ⟨rfl,d3.mono (fun i hi=>?_) (Bm.lt d.lt (c2.trans o).next),c2.trans o,u⟩;rcases hi with y|y
   ·exact .inl y
   ·exact .inr ⟨bQ c2.next y.1,y.2⟩
 ·rw[aI f]
  have E:D.begin i=D:=by unfold Dv.begin;rw[aG f]
  rw[E]at d2;simp only[I,Ac,f,aQ,aC,Aa];exact .ret ⟨rfl,d2.grow d.lt c2.next,c2,p⟩
def J1.reset(S:J1)(i:Int):J1 × Int:=({ S.begin i with dv:=((S.begin i).dv.reset i).1 },((S.begin i).dv.reset i).2)
theorem YD(H:Bu disp)(hK:1000<K)(hd:14<=d){D:Nat}{S:J1}(f:mJ disp K S)(s:Gj h D S G)(hb:HB h)(i:Int)(hs:0<(S.begin i).dv.size):
 Ok (Ag TT disp K d false 97 [.ptr D 0,I i] h) fun v h'=>v=I (S.reset i).2/\Gj h' D (S.reset i).1 (Bm G h h')/\Av G h h'/\HB h':=by
 obtain⟨e,rfl⟩:=d_ d;rw[YE H a_];simp only[BK,dr];refine(tW (K:=K) H a_ f s hb i).Am ?_;rintro _ h2 ⟨s2,c2,o⟩;unfold J1.reset;generalize S.begin i=T at s2 hs⊢;obtain⟨V,M,qc,qh,cs,U,ms,F,a⟩:=s2.Ph;simp only[Aa,Cy a.D8 rfl];refine(YC (K:=K) a.dev o hs i).Am ?_;rintro _ h3 ⟨rfl,d3,c3,p⟩;obtain⟨W,u⟩:=s2.put a o d3 c3;have O:=W.wL c2.next u.next s.lt
 have c4:=c2.grow u;simp only[I,Ac];by_cases he:(T.dv.reset i).2=0
 ·simp only[he,aC,Aa,Xw]
  have aa:(T.dv.reset i).1.size<=64:=d3.wf.size;refine(YF (K:=K) i K 0 h3 (by show(T.dv.reset i).1.size-0<K;omega) O p).Am ?_;rintro _ h5 ⟨s5,E,J⟩;simp only[Un,dr];refine .ret ⟨by rw[<-he],s5.mono (fun j hj=>Bm.le E.next hj) (Bm.lt s.lt (bQ c4.next E.next)),c4.grow E,J⟩
 ·simp only[he,aA,Aa,Un]
  exact .ret ⟨rfl,O,c4,p⟩
theorem Ok.YG{s:DX}{call:Ab->R}{k:EV->Ab->DX->R}{P:EV->Ab->Prop}(hb:Abk b s=true)(u:Ok (call (Ic b s h)) P)(he:∀v h1,P v h1->Ext (Ic b s h) h1)
 (E:∀v h1 h2,P v h1->(∀i,h2.get i=if i∈loose b s.nw then h.get i else h1.get i)->h2.next=h1.next->Ext h h2->Ok (k v h2 (s.big i)) Q):Ok (Ev.Ly i b s h call k) Q:=by
 obtain⟨v,h1,e,p⟩:=u;have x:=he v h1 p;have hm:h.next<=h1.mw:=x.mw h.next (aE _) (aE _) fun _ y=>y.elim
 have f:∀j,(Ic b s h).get j=if j∈loose b s.nw then none else h.get j:=fun j=>by rw[jq];exact(wM _ _ _).trans (by rw[jq])
 have J:Ev.Ly i b s h call k=k v ⟨kA h.t h1.t (loose b s.nw),h1.next,h.mw⟩ (s.big i):=by
  show Bc (Abk b s) (Ev.Am (call (Ic b s h)) fun v h'=>M0 i b s h h' fun s h=>k v h s) none=_;rw[hb,Al,e];show M0 i b s h h1 (fun s h=>k v h s)=_;unfold M0;rw[aR hm,Al]
 rw[J];have hg:∀j,(⟨kA h.t h1.t (loose b s.nw),h1.next,h.mw⟩:Ab).get j=if j∈loose b s.nw then h.get j else h1.get j:=fun j=>by
  rw[jq];exact(wN _ _ _ _).trans (by rw[jq,jq])
 refine E v h1 _ p hg rfl ⟨fun j hj O=>?_,x.next,fun w w1 _ _=>w1,fun y q o a=>?_⟩
 ·rw[hg]
  split
  ·rfl
  next U=>
   rw[x.get j hj O,f,aG U]
 ·rw[hg]at a
  split at a
  ·exact aM (y q o a) x.next
  ·exact x.hb (fun q o a=>by
    rw[f]at a;split at a
    ·cases a
    ·exact y q o a) q o a
theorem BL {z:List EV}(a:n<=65536)(h:Ab):Wa z e (I n) (I n) h=some (.slice h.next 0 n n false,h.new (.cells (rep z n) e)):=by
 show Bc (Nat.ble n n) (Bc (Nat.ble n 65536) _ none) none=_;rw[aR (aE _),Al,aR a,Al]
theorem BM:∀(Bt new:List EV),new.length<=Bt.length->J3 Bt new=some (new++Bt.drop new.length)
 | Bt,[],_=>by cases Bt<;>rfl
 | [],b::r,h=>by simp at h
 | a::Bt,b::r,h=>by
  show(match J3 Bt r with|some x=>some (b::x)|none=>none)=_;rw[BM Bt r (by simpa using h)];rfl
theorem YH{r:Nat}{op:Bool}{t:TypeId}{Bt new:List EV}{y:EV}(g:h.get i=some (.cells Bt t))(o:lenOf y=some n)(u:0<n)(hm:n<=m)(f:Pm h 1 n y=some new)(p:new.length=n)(E:Bt.length=m):
 builtin TT .copy #[159,159] [.slice i 0 m r op,y] h=some (I n,h.put i (.cells (new++Bt.drop n) t)):=by
 have hu:TT.T8 159=some (.slice 5):=by kernel_rfl
 have hs:TT.size 5=some 1:=by kernel_rfl
 have hb:Nat.ble n m=true:=aR hm;have h0:Nat.beq n 0=false:=by cases n with|zero=>omega|succ n=>rfl
 have hw:My h i 0 new=some (h.put i (.cells (new++Bt.drop n) t)):=by
  unfold My;rw[g];simp only;have:Gc Bt 0 new=J3 Bt new:=by cases Bt<;>rfl
  rw[this,BM Bt new a_,p]
 rw[tX]at f;have a:lenOf (.slice i 0 m r op)=some m:=rfl;unfold builtin;simp only[hu,hs,a,o,hb,Al,h0,Bk,f,hw];rfl
structure wO(h:Ab)(P t:Nat)(out:List Nat)(S:Nat->Prop):Prop where
 Ph:∃s q,h.get P=some (.cells [s,.bool false] t)/\Ce h s q 5 1 out.length (Be out)/\(0<out.length->P≠q/\S q)
 own:S P
theorem YI {w:Nat}{a:Nat}(O:a<9223372036854775808)(hw:w<=7)(U:out.length<=60000){S:Nat->Prop}(h0:Ab)(hS:∀i,h0.next<=i->S i):∀(m i:Nat) (h:Ab),w-i<m->i<=w->HB h->Av S h0 h->wO h P t (out++Pc i a) S ->
 Ok (Js K m (.ptr P 0) (Nk .i64 (a/256^i)) (I w) (I i) h) fun _ h'=>wO h' P t (out++Pc w a) S/\Av S h0 h'/\HB h':=by
 intro m;induction m with
 | zero=>intro i h hm;omega
 | succ m E=>
  intro i h hm hi hb c p;obtain⟨s,q,g,r,l⟩:=p.Ph;simp only[Js,I,Ac,Aa];by_cases f:(i:Int)<w
  ·simp only[f,aC,Aa,wP,Cy g rfl]
   rw[wrap_u8];have hlen:(out++Pc i a).length=out.length+i:=by rw[aF,De]
   refine Ml (z:=[.int .u8 0]) r hb rfl rfl rfl a_ a_ ?_;intro h2 J V c2;have o:=c2.at hb g fun y=>(l y.1).1 y.2
   have u:=(c2.hb hb) _ _ o;refine Ok.hM o rfl rfl (by show 0<2;decide) ?_;rw[rB];simp only[wQ,I,Ac];rw[Ch,fO,<-fF];have c3:Av S h (h2.put P (.cells ([s,EV.bool false].set 0 (.slice (h.next+1) 0 ((out++Pc i a).length+1) ((out++Pc i a).length+1) true)) t)):=(c2.mono fun j hj=>hj.2▸(l hj.1).2).Ar (.inl p.own) u _;refine E (i+1) _ a_ a_ ((c2.hb hb).put u _) (c.trans c3) ?_;rw[wS,<-bZ];have lt:=hb _ _ g;refine⟨⟨_,h.next+1,Ae _ _ _,?_,fun _=>⟨a_,hS _ (by have:=c.next;omega)⟩⟩,p.own⟩;have e1:((out++Pc i a)++[a/256^i%256]).length=(out++Pc i a).length+1:=by rw[aF];rfl
   have e2:Be ((out++Pc i a)++[a/256^i%256])=Be (out++Pc i a)++EV.cells (Nk .u8 (a/256^i%256)):=by rw[rD];rfl
   rw[e1,e2];exact J.frame fun _=>Af _
  ·have:i=w:=a_
   subst this;simp only[f,aA,Aa];exact .ret ⟨p,c,hb⟩
def iM(h:Ab)(P:Nat)(out:List Nat)(S:Nat->Prop):Prop:=wO h P 230 out S/\∀b∈out,b<256
theorem iM.chg{S:Nat->Prop}(p:iM h P out S)(hb:HB h)(c:Av T h h')(no:∀i,S i->i<h.next->¬T i):iM h' P out S:=by
 obtain⟨⟨⟨s,q,g,r,l⟩,o⟩,b⟩:=p;exact⟨⟨⟨s,q,c.at hb g (no _ o (hb _ _ g)),r.frame fun y=>c.get _ (hb _ _ (r.block y)) (no _ (l y).2 (hb _ _ (r.block y))),l⟩,o⟩,b⟩
theorem iM.mono{S:Nat->Prop}(p:iM h P out S)(s:∀i,S i->T i):iM h P out T:=by
 obtain⟨⟨⟨e,q,g,r,l⟩,o⟩,b⟩:=p;exact⟨⟨⟨e,q,g,r,fun y=>⟨(l y).1,s _ (l y).2⟩⟩,s _ o⟩,b⟩
def wT(S:Nat->Prop)(h:Ab):Nat->Prop:=fun i=>S i\/h.next<=i
theorem YJ {w:Nat}{S:Nat->Prop}(hK:1000<K)(p:iM h P out S)(hb:HB h)(U:out.length<=1000)(h1:1<=w)(u:w<=7){v:Int}(v0:0<=v)(V:v<=9223372036854775807)(hf:v<(256^w:Nat)):
 Ok (Ep K (.ptr P 0) (.int .i64 w) (.int .i64 v) h) fun _ h'=>iM h' P (out++Pc w v.toNat) (wT S h)/\Av S h h'/\HB h':=by
 obtain⟨p,hu⟩:=p.mono (T:=wT S h) fun i=>.inl
 obtain⟨a,rfl⟩:=av v0;have f:a<9223372036854775808:=a_
 have E:=(BN f h1 u).2 a_;simp only[Ep,dr];have J:=wU (K:=K) (w:Int) h;simp only[I]at J;rw[J,aO ⟨a_,a_⟩];simp only[Aa,Ac];have wp:=BO (K:=K) f hK h;rw[show(EV.int .i64 (a:Int))=.int .i64 (Int.ofNat a)from rfl,wp,Au];simp only[Nk,Ac];rw[show decide ((w:Int)<Int.ofNat (kS a))=false from aL (by show ¬(w:Int)<((kS a:Nat):Int);omega)];simp only[Aa,Pk,wV];have:=YI (K:=K) (P:=P) (t:=230) (w:=w) f u (out:=out) a_ (S:=wT S h) h (fun i=>.inr) K 0 h a_ (cS _) hb (Av.refl _) (by simpa [Pc]using p);rw[Nat.pow_zero,Nat.div_one]at this;refine this.mono ?_;rintro _ h' ⟨O,c,o⟩;refine⟨⟨O,fun b hb=>?_⟩,⟨fun i hi hs=>c.get i hi fun y=>?_,c.next,fun w1 e1 e2 e3=>c.mw w1 e1 e2 fun i hi=>?_,c.hb⟩,o⟩
 ·rcases bN.1 hb with y|y
  ·exact hu b y
  ·exact I6 _ _ b y
 ·rcases y with y|y
  ·exact hs y
  ·omega
 ·rcases hi with hi|hi
  ·exact e3 i hi
  ·omega
theorem BP{S:Nat->Prop}(o:S h.next):iM (h.new (.cells [.Aq,.bool false] 230)) h.next [] S:=⟨⟨⟨.Aq,0,Ad _ _,Ce.nil _ _ _ _,fun y=>absurd y (bT _)⟩,o⟩,fun b hb=>by cases hb⟩
def iN(l:List Nat):List Nat:=l++List.replicate (44-l.length) 0
theorem wW {l:List Nat}(h:l.length<=44):(iN l).length=44:=by unfold iN;rw[aF,bR];omega
theorem wX {l:List Nat}(h:∀b∈l,b<256):∀b∈iN l,b<256:=fun b hb=>by
 rcases bN.1 hb with y|y
 ·exact h b y
 ·rw[bO y];decide
structure oS(v:EV)(l:List Nat):Prop where
 eq:v=.agg (Be l)
 len:l.length=44
 u8:∀b∈l,b<256
theorem BQ{S:Nat->Prop}(p:iM h P out S)(hb:HB h)(h0:0<out.length)(hn:out.length<=44):Ok (rE K (.ptr P 0) h) fun v h'=>oS v (iN out)/\Ext h h'/\HB h':=by
 obtain⟨a,hu⟩:=p;simp only[rE,Aa];rw[show(h.new (.cells (List.replicate 44 (EV.int .u8 0)) 151)).next=h.next+1 from rfl];have u:Ext h ((h.new (.cells (List.replicate 44 (EV.int .u8 0)) 151)).new (.cells (List.replicate 44 (EV.int .u8 0)) 151)):=(Av.new _ _).Db _;have V:((h.new (.cells (List.replicate 44 (EV.int .u8 0)) 151)).new (.cells (List.replicate 44 (EV.int .u8 0)) 151)).get h.next=some (.cells (List.replicate 44 (EV.int .u8 0)) 151):=by
  rw[Az _ (aN _)];exact Ad _ _
 have E:((h.new (.cells (List.replicate 44 (EV.int .u8 0)) 151)).new (.cells (List.replicate 44 (EV.int .u8 0)) 151)).get (h.next+1)=some (.cells (List.replicate 44 (EV.int .u8 0)) 151):=Ad _ _;generalize (h.new (.cells (List.replicate 44 (EV.int .u8 0)) 151)).new (.cells (List.replicate 44 (EV.int .u8 0)) 151)=h1 at u V E⊢;have f:=u.hb hb;obtain⟨⟨s,q,g,r,l⟩,_⟩:=a;refine(BR (K:=K) (u.at hb g) (r.frame fun y=>u.get _ (hb _ _ (r.block y)) id) f a_).Am ?_;rintro _ h2 ⟨y,q',rfl,ry,W,aa,lq⟩;have V:=W.at f V;have E:=W.at f E;simp only[Aa];rw[show ∀k:EV->R,Ny 44 1 (.ptr (h.next+1) 0) none none none k=k (.slice (h.next+1) 0 44 44 false)from fun k=>rfl];have J:=ry.bs a_;have ab:=YH (h:=h2) (i:=h.next+1) (n:=out.length) (m:=44) (r:=44) (op:=false) (t:=151) (Bt:=List.replicate 44 (EV.int .u8 0)) E J.len h0 hn J.cells (by rw[Bi]) (by simp);rw[ab,Au];have l3:=aa _ _ E;have ee:Be out++(List.replicate 44 (EV.int .u8 0)).drop out.length=Be (iN out):=by
  unfold iN;rw[rD,List.drop_replicate];unfold Be;rw[fP];rfl
 rw[ee];have o:=wW hn;have O:=wX hu;generalize iN out=l at o O⊢;have g5:(h2.put (h.next+1) (.cells (Be l) 151)).get (h.next+1)=some (.cells (Be l) 151):=Ae _ _ _;have g6:(h2.put (h.next+1) (.cells (Be l) 151)).get h.next=some (.cells (List.replicate 44 (EV.int .u8 0)) 151):=by rw[Af _];exact V
 have ae:=u.trans W;have x5:=ae.Ar (i:=h.next+1) (.inr a_) l3 (.cells (Be l) 151);generalize h2.put (h.next+1) (.cells (Be l) 151)=h5 at g5 g6 x5⊢;have U:=x5.hb hb;have ul:(Be l).length=44:=by rw[Bi,o]
 rw[Cz g5 rfl,Ak ul];simp only[Hf];have l6:=U _ _ g6;refine Ok.st (Be l) g6 rfl (by show Gk (Be l)=44;rw[Bg,ul]) (Bo (by show(List.replicate 44 (EV.int .u8 0)).length=(Be l).length;rw[ul,bR])) ?_;rw[Rg (Ae _ _ _) p_.1 p_.2 ul];exact .ret ⟨⟨rfl,o,O⟩,x5.Ar (.inr (aE _)) l6 _,U.put l6 _⟩
theorem BS{z:List EV}{l:List Nat}(f:oS v l)(hg:h.get i=some (.cells z 151))(o:z.length=44)(x:Ext h0 h)(hb:HB h)(hi:h0.next<=i):Ok (hQ 44 (.ptr i 0) v h fun h=>J5 TT [.c (.ptr i 0) 151] h) fun v h'=>oS v l/\Ext h0 h'/\HB h':=by
 obtain⟨rfl,a,hu⟩:=f;have ul:(Be l).length=44:=by rw[Bi,a]
 have lt:=hb _ _ hg;refine Ok.st (Be l) hg rfl (by show Gk (Be l)=44;rw[Bg,ul]) (Bo (by show z.length=(Be l).length;rw[ul,o])) ?_;rw[Rg (Ae _ _ _) p_.1 p_.2 ul];exact .ret ⟨⟨rfl,a,hu⟩,x.Ar (.inr hi) lt _,hb.put lt _⟩
theorem tY:∀(l:List (List EV)) (j:Nat) (x:List EV),(∀x∈l,x.length=n)->l[j]? = some x->Ou l.flatten (j*n) n=some x:=by
 have len:∀l:List (List EV),(∀x∈l,x.length=n)->l.flatten.length=l.length*n:=fun l=>by
  induction l with
  | nil=>intro _;simp
  | cons a r o=>intro h;rw[cK,aF,h a (aW ..),o fun x f=>h x (aT _ f),bJ,gW];omega
 intro l j x p f;have hj:=(aY.1 f).1;rw[F9 (by rw[len l p];have:=Nat.mul_le_mul_right n (show j+1<=l.length from hj);rw[gW]at this;exact this)];congr 1;induction l generalizing j with
 | nil=>cases f
 | cons a r o=>
  have u:=p a (aW ..);cases j with
  | zero=>
   rw[bL]at f;cases f;rw[gX,dE,cK,<-u,fN]
  | succ j=>
   rw[bm]at f;rw[cK,gW,show j*n+n=a.length+j*n from a_,<-cV,gS];exact o j (fun x f=>p x (aT _ f)) f (aY.1 f).1
theorem Ok.nC{z:List EV}(hg:h.get i=some (.cells z t))(f:z.length=n)(a:xs.length=n)(o:Ok (kk (h.put i (.cells xs t))) Q):Ok (hQ n (.ptr i 0) (.agg xs) h kk) Q:=
 Ok.st xs hg rfl (by show Gk xs=n;rw[Bg,a]) (Bo (by show z.length=xs.length;rw[a,f])) o
theorem iM.less{S:Nat->Prop}(p:iM h P out S)(hb:HB h)(t:∀i,S i->i<h.next->T i):iM h P out T:=by
 obtain⟨⟨⟨e,q,g,r,l⟩,o⟩,b⟩:=p;exact⟨⟨⟨e,q,g,r,fun y=>⟨(l y).1,t _ (l y).2 (hb _ _ (r.block y))⟩⟩,t _ o (hb _ _ g)⟩,b⟩
theorem R7 {w:Nat}{S:Nat->Prop}(hK:1000<K)(p:iM h P out S)(hb:HB h)(hS:∀i,h.next<=i->S i)(f:out.length<=1000)(h1:1<=w)(o:w<=7){v:Int}(v0:0<=v:=by omega)(u:v<=9223372036854775807:=by omega)(hf:v<(256^w:Nat):=by omega):
 Ok (Ep K (.ptr P 0) (.int .i64 w) (.int .i64 v) h) fun _ h'=>iM h' P (out++Pc w v.toNat) S/\Av S h h'/\HB h'/\∀i,h'.next<=i->S i:=
 (YJ hK p hb f h1 o v0 u hf).mono fun _ _ ⟨a,c,b⟩=>⟨a.mono fun i hi=>hi.elim id (hS i),c,b,fun i hi=>hS i (bQ c.next hi)⟩
theorem Ke{ll:Nat}{es:List Me}(m:Oh h b ml ll g es)(hb:HB h):Ok (Er K (.ptr b 0) h) fun v h'=>v=gV g/\Ext h h'/\HB h':=by
 simp only[Er,Aa];have a:Ext h (h.new (.cells [EV.int .i64 0,.int .i64 0,.int .i64 0,.int .i64 0,.int .i64 0,.int .i64 0] 23)):=Av.new _ _;have o:=a.hb hb;rw[Cz (a.at hb m.map) rfl,show Ou (gL g++[.slice ml 0 g.B.toNat g.B.toNat false,.slice ll 0 (g.D*g.Z).toNat (g.D*g.Z).toNat false]) 0 6=some (gL g)from rfl];simp only[Aa];refine Ok.st (gL g) (Ad _ _) rfl rfl (Bo rfl) ?_;rw[Rg (Ae _ _ _) tZ.1 tZ.2 rfl];have f:=a.Ar (i:=h.next) (.inr (aE _)) (aN _) (.cells (gL g) 23);exact .ret ⟨rfl,f,f.hb hb⟩
theorem wY(s:Sm g){x:Me}(h:meR g x=true):(0<=x.state/\x.state<=2)/\(0<=x.Ai/\x.Ai<=511)/\(0<=x.Aw/\x.Aw<=511)/\(0<=x.off/\x.off<=63)/\(0<=x.seq/\x.seq<=281474976710655)/\(0<=x.sum/\x.sum<=4294967295):=by
 have:=s.d0;have:=s.d1;have:=s.z0;have:=s.z1;have:=s.s1;obtain⟨o,m1⟩:=Rl (a:=g.D) (b:=g.Z) (A:=8) (B:=64);unfold meR at h;split at h
 next h0=>
  rw[dG h];unfold Me.nil;refine⟨?_,?_,?_,?_,?_,?_⟩<;>simp only<;>omega
 ·split at h
  ·unfold meB Sr at h
   simp only[aV,Fk,aS]at h;obtain⟨⟨_,⟨a,b⟩,c,d⟩,⟨_,⟨e,f⟩,_⟩,_,i,j,k,l⟩:=h;refine⟨?_,?_,?_,?_,?_,?_⟩<;>omega
  ·cases h
theorem rF{es:List Me}(h:∀x∈es,meR g x=true)(j:Int):meR g (U7 es j).1=true:=by
 have n0:meR g (Me.nil 0)=true:=by unfold meR;rw[aI (.inl rfl)];exact aO rfl
 unfold U7;split
 ·cases a:es[j.toNat]? with
  | none=>exact n0
  | some y=>exact h y (bh a)
 ·exact n0
def jO(x:Me):List Nat:=Pc 1 x.state.toNat++(Pc 2 x.Ai.toNat++(Pc 2 x.Aw.toNat++(Pc 1 x.off.toNat++(Pc 6 x.seq.toNat++Pc 4 x.sum.toNat))))
theorem BT(x:Me):(jO x).length=16:=by unfold jO;simp only[aF,De]
theorem YK(sm:Sm g){x:Me}(hx:meR g x=true){S:Nat->Prop}(hK:1000<K)(p:iM h P out S)(hb:HB h)(hS:∀i,h.next<=i->S i)(hn:out.length<=900):
 Ok (t' K (.ptr P 0) (.agg x.cells) h) fun _ h'=>iM h' P (out++jO x) S/\Av S h h'/\HB h'/\∀i,h'.next<=i->S i:=by
 obtain⟨b1,b2,b3,b4,b5,b6⟩:=wY sm hx;simp only[t',Aa];obtain⟨h1,e_,O,W,n1⟩:=nW h (.cells x.cells 38);rw[e_];have f:=O.hb hb;have t1:∀i,h1.next<=i->S i/\i≠h.next:=fun i hi=>⟨hS i a_,a_⟩
 have p1:iM h1 P out (fun i=>S i/\i≠h.next):=(p.less hb (T:=fun i=>S i/\i≠h.next) fun i a b=>⟨a,a_⟩).chg hb O fun _ _ _=>id
 rw[Aj W rfl (v:=I x.state) rfl];refine(R7 hK p1 f t1 a_ (w:=1) a_ a_ (v:=x.state)).Am ?_;rintro _ h2 ⟨p2,c2,o,t2⟩;have g2:=c2.at f W fun y=>y.2 rfl
 rw[Aj g2 rfl (v:=I x.Ai) rfl];refine(R7 hK p2 o t2 (by simp only[aF,De];omega) (w:=2) a_ a_ (v:=x.Ai)).Am ?_;rintro _ h3 ⟨p3,c3,u,t3⟩;have g3:=c3.at o g2 fun y=>y.2 rfl
 rw[Aj g3 rfl (v:=I x.Aw) rfl];refine(R7 hK p3 u t3 (by simp only[aF,De];omega) (w:=2) a_ a_ (v:=x.Aw)).Am ?_;rintro _ h4 ⟨p4,c4,E,t4⟩;have g4:=c4.at u g3 fun y=>y.2 rfl
 rw[Aj g4 rfl (v:=I x.off) rfl];refine(R7 hK p4 E t4 (by simp only[aF,De];omega) (w:=1) a_ a_ (v:=x.off)).Am ?_;rintro _ h5 ⟨p5,c5,J,t5⟩;have g5:=c5.at E g4 fun y=>y.2 rfl
 rw[Aj g5 rfl (v:=I x.seq) rfl];refine(R7 hK p5 J t5 (by simp only[aF,De];omega) (w:=6) a_ a_ (v:=x.seq)).Am ?_;rintro _ h6 ⟨p6,c6,U,t6⟩;have g6:=c6.at J g5 fun y=>y.2 rfl
 rw[Aj g6 rfl (v:=I x.sum) rfl];refine(R7 hK p6 U t6 (by simp only[aF,De];omega) (w:=4) a_ a_ (v:=x.sum)).Am ?_;rintro _ h7 ⟨p7,c7,V,t7⟩;have p8:iM h7 P (out++jO x) S:=by
  unfold jO;simp only[<-bZ];exact p7.mono fun i hi=>hi.1
 exact .ret ⟨p8,(O.mono fun _=>False.elim).trans (((((c2.trans c3).trans c4).trans c5).trans c6).trans c7|>.mono fun i hi=>hi.1),V,fun i hi=>(t7 i hi).1⟩
def jW(g:Gm)(z:Int):List Nat:=Pc 6 z.toNat++(Pc 1 g.D.toNat++(Pc 1 g.Z.toNat++(Pc 1 g.S.toNat++(Pc 2 g.B.toNat++(Pc 1 g.P.toNat++Pc 1 g.O.toNat)))))
theorem wZ(g:Gm)(z:Int):(jW g z).length=13:=by unfold jW;simp only[aF,De]
theorem YL(hK:1000<K){ll:Nat}(s:Sm g){es:List Me}(m:Oh h b ml ll g es)(hb:HB h){x y:EV}{sq:Int}(q0:0<=sq)(q1:sq<=281474976710655):
 Ok (t_ K (.agg [x,y,I sq,.ptr b 0]) h) fun v h'=>oS v (iN (jW g sq))/\Ext h h'/\HB h':=by
 simp only[t_,Aa];have x1:Ext h ((h.new (.cells [x,y,I sq,.ptr b 0] 137)).new (.cells (List.replicate 44 (.int .u8 0)) 151)):=(Av.new _ _).Db _;have g1:((h.new (.cells [x,y,I sq,.ptr b 0] 137)).new (.cells (List.replicate 44 (.int .u8 0)) 151)).get h.next=some (.cells [x,y,I sq,.ptr b 0] 137):=by rw[Az _ (aN _)];exact Ad _ _
 have f1:((h.new (.cells [x,y,I sq,.ptr b 0] 137)).new (.cells (List.replicate 44 (.int .u8 0)) 151)).get (h.next+1)=some (.cells (List.replicate 44 (.int .u8 0)) 151):=Ad _ _;have n1:((h.new (.cells [x,y,I sq,.ptr b 0] 137)).new (.cells (List.replicate 44 (.int .u8 0)) 151)).next=h.next+2:=rfl
 generalize (h.new (.cells [x,y,I sq,.ptr b 0] 137)).new (.cells (List.replicate 44 (.int .u8 0)) 151)=h1 at x1 g1 f1 n1⊢;have ae:=x1.hb hb;rw[Aj g1 rfl (v:=.ptr b 0) rfl];refine(Ke (K:=K) (m.frame (x1.get _ (hb _ _ m.map) id) (x1.get _ (hb _ _ m.row) id) (x1.get _ (hb _ _ m.live) id)) ae).Am ?_;rintro _ h2 ⟨rfl,x2,af⟩;have g2:=x2.at ae g1;have f2:=x2.at ae f1;refine Ok.nC (xs:=gL g) (Ad _ _) rfl rfl ?_;rw[Ay (l:=[.Aq,.bool false]) rfl];simp only[Aa];obtain⟨h3,e_,x3,e3,n3⟩:=nP h2 (.cells [EV.int .i64 0,.int .i64 0,.int .i64 0,.int .i64 0,.int .i64 0,.int .i64 0] 23) (.cells (gL g) 23);rw[e_];have p:=x3.hb af;have x4:Ext h3 (h3.new (.cells [.Aq,.bool false] 230)):=Av.new _ _;have p4:iM (h3.new (.cells [.Aq,.bool false] 230)) h3.next [] (fun i=>h3.next<=i):=BP (aE _)
 have n4:(h3.new (.cells [.Aq,.bool false] 230)).next=h3.next+1:=rfl
 generalize h3.new (.cells [.Aq,.bool false] 230)=h4 at x4 p4 n4⊢;have u:=x4.hb p;have g4:=x4.at p (x3.at af g2);have f4:=x4.at p (x3.at af f2);have e4:=x4.at p e3;have l1:=x2.next
 have k1:¬h3.next<=h.next:=a_
 have k2:¬h3.next<=h.next+1:=a_
 have k3:¬h3.next<=h2.next:=a_
 have:=s.d0;have:=s.d1;have:=s.z0;have:=s.z1;have:=s.s0;have:=s.s1;have:=s.b0;have:=s.b1;have:=s.p0;have:=s.p1;have:=s.o0;have:=s.o1;have t4:∀i,h4.next<=i->h3.next<=i:=fun i hi=>a_
 rw[Aj g4 rfl (v:=I sq) rfl];refine(R7 hK p4 u t4 (by simp) (w:=6) a_ a_ (v:=sq)).Am ?_;rintro _ h5 ⟨p5,c5,E,t5⟩;have g5:=c5.at u g4 k1;have f5:=c5.at u f4 k2;have e5:=c5.at u e4 k3;rw[Aj e5 rfl (v:=I g.D) rfl];refine(R7 hK p5 E t5 (by simp only[aF,De,cU];omega) (w:=1) a_ a_ (v:=g.D)).Am ?_;rintro _ h6 ⟨p6,c6,J,t6⟩;have g6:=c6.at E g5 k1;have f6:=c6.at E f5 k2;have e6:=c6.at E e5 k3;rw[Aj e6 rfl (v:=I g.Z) rfl];refine(R7 hK p6 J t6 (by simp only[aF,De,cU];omega) (w:=1) a_ a_ (v:=g.Z)).Am ?_;rintro _ h7 ⟨p7,c7,U,t7⟩;have g7:=c7.at J g6 k1;have f7:=c7.at J f6 k2;have e7:=c7.at J e6 k3;rw[Aj e7 rfl (v:=I g.S) rfl];refine(R7 hK p7 U t7 (by simp only[aF,De,cU];omega) (w:=1) a_ a_ (v:=g.S)).Am ?_;rintro _ h8 ⟨p8,c8,V,t8⟩;have g8:=c8.at U g7 k1;have f8:=c8.at U f7 k2;have e8:=c8.at U e7 k3;rw[Aj e8 rfl (v:=I g.B) rfl];refine(R7 hK p8 V t8 (by simp only[aF,De,cU];omega) (w:=2) a_ a_ (v:=g.B)).Am ?_;rintro _ h9 ⟨p9,c9,W,t9⟩;have g9:=c9.at V g8 k1;have f9:=c9.at V f8 k2;have e9:=c9.at V e8 k3;rw[Aj e9 rfl (v:=I g.P) rfl];refine(R7 hK p9 W t9 (by simp only[aF,De,cU];omega) (w:=1) a_ a_ (v:=g.P)).Am ?_;rintro _ b6 ⟨a2,aa,f,t10⟩;have a3:=aa.at W g9 k1;have f10:=aa.at W f9 k2;have w7:=aa.at W e9 k3;rw[Aj w7 rfl (v:=I g.O) rfl];refine(R7 hK a2 f t10 (by simp only[aF,De,cU];omega) (w:=1) a_ a_ (v:=g.O)).Am ?_;rintro _ a4 ⟨a5,o,ab,t11⟩;have b7:=o.at f a3 k1;have f11:=o.at f f10 k2;have YM:=o.at f w7 k3;have a6:iM a4 h3.next (jW g sq) (fun i=>h3.next<=i):=by
  unfold jW;simp only[<-bZ];exact a5
 refine(BQ a6 ab (by rw[wZ];omega) (by rw[wZ];omega)).Am ?_;rintro v a7 ⟨hv,al,ao⟩;have x5:Ext h h4:=((x1.trans x2).trans x3).trans x4;have o:=((((((c5.trans c6).trans c7).trans c8).trans c9).trans aa).trans o);have x:Ext h a7:=(x5.then o fun i a b=>by have:=x1.next;omega).trans al;exact BS hv (al.at ab f11) (by simp) x ao (by show h.next<=h.next+1;omega)
def jD(es:List Me)(j:Int):Nat->List Nat
 | 0=>Pc 1 j.toNat
 | i+1=>jD es j i++jO (U7 es (2*(j-1)+i)).1
theorem rG(es:List Me)(j:Int):∀i,(jD es j i).length=1+16*i
 | 0=>De _ _
 | i+1=>by show(jD es j i++_).length=_;rw[aF,rG es j i,BT];omega
theorem YN {es:List Me}(hK:1000<K){h4:Ab}{ll n3 r:Nat}(s:Sm g){l:List EV}(hl:l[3]? = some (.ptr b 0)){j:Int}(j0:1<=j)(j1:j<=255)(hx:∀h,Av (fun i=>n3<=i) h4 h->Ext h0 h)(hr:h0.next<=r)(k1:t<n3)(k2:r<n3)(k3:b<n3)(k4:ml<n3)(k5:ll<n3):∀(n i:Nat) (h:Ab),2-i<n->i<=2->HB h->(∀i,h.next<=i->n3<=i)->Av (fun i=>n3<=i) h4 h->iM h P (jD es j i) (fun i=>n3<=i)->Oh h b ml ll g es->h.get t=some (.cells l 137)->h.get r=some (.cells (List.replicate 44 (.int .u8 0)) 151) ->
 Ok (Yf K n (I j) (.ptr t 0) (.ptr r 0) (.ptr P 0) (I i) h) fun v h'=>oS v (iN (jD es j 2))/\Ext h0 h'/\HB h':=by
 intro n;induction n with
 | zero=>intro i h hn;omega
 | succ n ih=>
  intro i h hn hi hb ht c p m gt U;rw[Yf];simp only[I,Ac,Aa];by_cases ai:i<2
  ·have:decide ((i:Int)<2)=true:=by simp;omega
   simp only[this,Aa,BU];rw[Aj gt rfl hl];simp only[Ac];rw[show Dl .i64 (j-1)=j-1 from Ch,show Dl .i64 (2*(j-1))=2*(j-1)from Ch,show Dl .i64 (2*(j-1)+i)=2*(j-1)+i from Ch];refine(Oj (K:=K) s m hb (2*(j-1)+i)).Am ?_;rintro _ h2 ⟨rfl,V⟩;have E:=V.hb hb;have hR:=rF m.ok (2*(j-1)+(i:Int));have W:jD es j (i+1)=jD es j i++jO (U7 es (2*(j-1)+(i:Int))).1:=rfl;generalize (U7 es (2*(j-1)+(i:Int))).1=x at hR W⊢;simp only[Aa];refine Ok.mk rfl rfl fun h3 x3 e3 _=>?_
   have J:=x3.hb E;rw[Cp e3 rfl (Ak (n:=6) rfl)];have f:=V.trans x3;refine(YK s hR hK (p.chg hb f fun _ _ _=>id) J (fun i hi=>ht i (bQ f.next hi)) (by rw[rG];omega)).Am ?_;rintro _ h5 ⟨p5,c5,O,t5⟩;have a:Av (fun i=>n3<=i) h h5:=(Ext.to f).trans c5;simp only[BV,I,Ac];rw[Ch,show((i:Nat):Int)+1=((i+1:Nat):Int) from a_];refine ih (i+1) h5 a_ a_ O t5 (c.trans a) ?_ ?_ ?_ ?_
   ·rw[W];exact p5
   ·exact m.frame (a.get _ (hb _ _ m.map) a_) (a.get _ (hb _ _ m.row) a_) (a.get _ (hb _ _ m.live) a_)
   ·exact a.at hb gt a_
   ·exact a.at hb U a_
  ·have:decide ((i:Int)<2)=false:=by simp;omega
   have:i=2:=a_
   subst this;simp only[this,Aa,BW];refine(BQ p hb (by rw[rG];omega) (by rw[rG];omega)).Am ?_;rintro v ao ⟨hv,o,u⟩;exact BS hv (o.at hb U) (by simp) ((hx h c).trans o) u hr
theorem YO(hK:1000<K){ll:Nat}(s:Sm g){es:List Me}(m:Oh h b ml ll g es)(hb:HB h){x y z:EV}{j:Int}(j0:1<=j)(j1:j<=255):
 Ok (ua K (.agg [x,y,z,.ptr b 0]) (I j) h) fun v h'=>oS v (iN (jD es j 2))/\Ext h h'/\HB h':=by
 simp only[ua,Aa];rw[Ay (l:=[.Aq,.bool false]) rfl];simp only[Aa];have O:Ext h ((h.new (.cells [x,y,z,.ptr b 0] 137)).new (.cells (List.replicate 44 (.int .u8 0)) 151)):=(Av.new _ _).Db _;have V:((h.new (.cells [x,y,z,.ptr b 0] 137)).new (.cells (List.replicate 44 (.int .u8 0)) 151)).get h.next=some (.cells [x,y,z,.ptr b 0] 137):=by rw[Az _ (aN _)];exact Ad _ _
 have f1:((h.new (.cells [x,y,z,.ptr b 0] 137)).new (.cells (List.replicate 44 (.int .u8 0)) 151)).get (h.next+1)=some (.cells (List.replicate 44 (.int .u8 0)) 151):=Ad _ _;have n1:((h.new (.cells [x,y,z,.ptr b 0] 137)).new (.cells (List.replicate 44 (.int .u8 0)) 151)).next=h.next+2:=rfl
 rw[show(h.new (D5.cells [x,y,z,EV.ptr b 0] 137)).next=h.next+1 from rfl];generalize (h.new (.cells [x,y,z,.ptr b 0] 137)).new (.cells (List.replicate 44 (.int .u8 0)) 151)=h3 at O V f1 n1⊢;have o:=O.hb hb;have u:Ext h3 (h3.new (.cells [.Aq,.bool false] 230)):=Av.new _ _;have W:iM (h3.new (.cells [.Aq,.bool false] 230)) h3.next [] (fun i=>h3.next<=i):=BP (aE _)
 have n4:(h3.new (.cells [.Aq,.bool false] 230)).next=h3.next+1:=rfl
 generalize h3.new (.cells [.Aq,.bool false] 230)=h4 at u W n4⊢;have f:=u.hb o;have l1:=hb _ _ m.map;have l2:=hb _ _ m.row;have l3:=hb _ _ m.live;have E:=O.trans u;refine(R7 hK W f (fun i hi=>by omega) (by simp) (w:=1) a_ a_ (v:=j)).Am ?_;rintro _ h5 ⟨p5,p,U,t5⟩;refine YN (es:=es) (n3:=h3.next) hK s rfl j0 j1 (h0:=h) (h4:=h4) (b:=b) (ml:=ml) (ll:=ll) (fun h' c=>E.then c fun i a b=>by omega) (Nat.le_succ _) a_ a_ a_ a_ a_ K 0 h5 a_ a_ U t5 p p5 ?_ (p.at f (u.at o V) a_) (p.at f (u.at o f1) a_);have J:=m.frame (E.get _ l1 id) (E.get _ l2 id) (E.get _ l3 id);exact J.frame (p.get _ (f _ _ J.map) a_) (p.get _ (f _ _ J.row) a_) (p.get _ (f _ _ J.live) a_)
section
theorem YP:(Fw TT 93 0).2.1 = [29,30]:=by kernel_rfl
def nE(sq:Int)(es:List Me):Bool:=es.any fun x=>decide (sq<=x.seq)
structure qa(h:Ab)(l0 d0:Nat)(tm:Bb)(b1 b2:Nat)(x y w:EV)(sq:Int)(found:Bool):Prop where
 lp:h.get l0=some (Ax TT 93 36 0 tm (if found then .done else .ready) (if found then some .ret else none) d0)
 c1:h.get b1=some (.cells [x,y,I sq,w] 137)
 c2:h.get b2=some (.cells [.bool false] 4)
 hb:HB h
section
variable (H:Bu disp)
include H
theorem YQ(he:2<=e){d0 b1:Nat}{x y w:EV}{sq i:Int}{z:Me}(U:qa h l0 d0 tm b1 b2 x y w sq false)(t1:tmp tm 1=.ptr b1 0)(t2:tmp tm 2=.ptr b2 0):
 ∃h',Ag TT disp K (e+1) true l0 [I i,.agg z.cells] h=some (.bool (decide (¬sq<=z.seq)),h')/\qa h' l0 d0 tm b1 b2 x y w sq (decide (sq<=z.seq))/\Av (fun j=>j=l0\/j=b2) h h':=by
 have hg:=U.lp;simp only[aX,ak]at hg;have p:=hg;have g1:=U.c1;have g2:=U.c2;have hb:=U.hb;unfold Ax at p;rw[YP]at p;rw[YR H he tm h (I i) _ p,t1,t2];have ai:=hb _ _ hg;have u:l0≠b1:=Ba hg g1 (by simp[Ax]);have f:l0≠b2:=Ba hg g2 (by simp[Ax]);have af:b1≠b2:=Ba g1 g2 (by intro y;injection y with _ y;cases y);simp only[BX,Aa];rw[nG (h:=h.new (.cells [EV.int .i64 0,.int .i64 0,.int .i64 0,.int .i64 0,.int .i64 0,.int .i64 0] 38)) (i:=h.next) (o:=0) (n:=6) (v:=.agg z.cells) (l:=[EV.int .i64 0,.int .i64 0,.int .i64 0,.int .i64 0,.int .i64 0,.int .i64 0]) (t:=38) (l':=z.cells) (Ad _ _) rfl rfl (Bo rfl)];obtain⟨h3,e_,E,e3,_⟩:=nP h (.cells [EV.int .i64 0,.int .i64 0,.int .i64 0,.int .i64 0,.int .i64 0,.int .i64 0] 38) (.cells z.cells 38);rw[e_];have J:=E.hb hb;have q0:=E.at hb hg;have l3:=J _ _ q0;rw[oT q0];have c4:Av (fun j=>j=l0\/j=b2) h (h3.put l0 (Ax TT 93 36 0 tm .busy none d0)):=(Ext.to (S:=fun j=>j=l0\/j=b2) E).Ar (.inl (.inl rfl)) l3 _;have r0:(h3.put l0 (Ax TT 93 36 0 tm .busy none d0)).get l0=some (Ax TT 93 36 0 tm .busy none d0):=Ae _ _ _;have V:(h3.put l0 (Ax TT 93 36 0 tm .busy none d0)).get b1=some (.cells [x,y,I sq,w] 137):=by rw[Af _ u];exact E.at hb g1
 have W:(h3.put l0 (Ax TT 93 36 0 tm .busy none d0)).get b2=some (.cells [.bool false] 4):=by rw[Af _ f];exact E.at hb g2
 have re:(h3.put l0 (Ax TT 93 36 0 tm .busy none d0)).get h.next=some (.cells z.cells 38):=by rw[Af _];exact e3
 have a:HB (h3.put l0 (Ax TT 93 36 0 tm .busy none d0)):=J.put l3 _;generalize h3.put l0 (Ax TT 93 36 0 tm .busy none d0)=h4 at c4 r0 V W re a⊢;have l4:=a _ _ r0;have O:=a _ _ W;simp only[Ye,Aa];rw[Aj re rfl (v:=I z.seq) rfl,Aj V rfl (v:=I sq) rfl];simp only[I,Ac];by_cases hx:sq<=z.seq
 ·have e1:decide (z.seq≥sq)=true:=aO hx
  simp only[e1,Aa,hx,aB,aA,aC];rw[nG (o:=0) (n:=1) (v:=.bool false) (l':=[.bool false]) W rfl rfl rfl,Si (by rw[Af _ (cR f)];exact r0)];exact⟨_,rfl,⟨Ae _ _ _,by rw[Af _ u,Af _ (cR af)];exact V,by rw[Af _ f];exact Ae _ _ _,(a.put O _).put (by rw[Ab.Qv];exact l4) _⟩,(c4.Ar (.inl (.inr rfl)) O _).Ar (.inl (.inl rfl)) (by rw[Ab.Qv];exact l4) _⟩
 ·have e1:decide (z.seq≥sq)=false:=aL hx
  simp only[e1,Aa,hx,aQ,aA,aC];rw[Si r0];exact⟨_,rfl,⟨Ae _ _ _,by rw[Af _ u];exact V,by rw[Af _ f];exact W,a.put l4 _⟩,c4.Ar (.inl (.inl rfl)) l4 _⟩
theorem YS(he:3<=e){es:List Me}{d0 b1:Nat}{x y w:EV}{sq:Int}(hn:es.length<=256)(t1:tmp tm 1=.ptr b1 0)(t2:tmp tm 2=.ptr b2 0):∀(m i:Nat) (h:Ab),es.length-i<m->i<=es.length->qa h l0 d0 tm b1 b2 x y w sq false ->
 h.get ml=some (.cells (es.map Me.cells).flatten 38)->ml≠l0->ml≠b2 ->
 Ok (Cf (Ag TT disp K e false) (Ag TT disp K e true) K m (.Vz l0) (.slice ml 0 es.length es.length false) (I es.length) (I i) h) fun _ h'=>qa h' l0 d0 tm b1 b2 x y w sq (nE sq (es.drop i))/\Av (fun j=>j=l0\/j=b2) h h':=by
 intro m;induction m with
 | zero=>intro i h hm;omega
 | succ m W=>
  intro i h hm hi f V p u;rw[Cf];simp only[I,Ac,Aa];by_cases o:i<es.length
  ·have:decide ((i:Int)<(es.length:Int))=true:=by simp;omega
   simp only[this,Aa,Gd];rw[On o,bP,Cp V rfl (tR es o)];rw[show nE sq (es.drop i)=(decide (sq<=es[i].seq)||nE sq (es.drop (i+1))) by rw[dH o];rfl];generalize es[i]=z
   try simp only[Aa]
   refine Ok.mk rfl rfl fun h3 E e3 _=>?_
   have U:=E.hb f.hb;rw[Cp e3 rfl (Ak (n:=6) rfl)];obtain⟨e,rfl⟩:=d_ e;have hc:Ue (Ag TT disp K (e+1) false) (Ag TT disp K (e+1) true) (.Vz l0) [.int .i64 (i:Int),.agg z.cells] h3=Ag TT disp K (e+1) true l0 [I i,.agg z.cells] h3:=rfl;obtain⟨h4,r1,J,c4⟩:=YQ (K:=K) H (e:=e) a_ (i:=i) (z:=z) (⟨E.at f.hb f.lp,E.at f.hb f.c1,E.at f.hb f.c2,U⟩:qa h3 l0 d0 tm b1 b2 x y w sq false) t1 t2;rw[hc,r1,Au];have c:Av (fun j=>j=l0\/j=b2) h h4:=(Ext.to E).trans c4;by_cases O:sq<=z.seq
   ·simp only[O,aC]at J
    simp only[O,aB,aA,Aa,aC,Bool.true_or];exact .ret ⟨J,c⟩
   ·simp only[O,aA]at J
    simp only[O,aQ,aC,aA,Aa,Bool.false_or,Gg,Ac];rw[Ch,show((i:Nat):Int)+1=((i+1:Nat):Int) from a_];refine(W (i+1) h4 a_ a_ J (c.at f.hb V fun y=>y.elim p u) p u).mono ?_;rintro _ h5 ⟨a,c5⟩;exact⟨a,c.trans c5⟩
  ·have:decide ((i:Int)<(es.length:Int))=false:=by simp;omega
   have e0:es.drop i = []:=List.drop_eq_nil_of_le a_;rw[e0];simp only[this,Aa];exact .ret ⟨f,Av.refl _⟩
omit H in
theorem YT {v l:Int}(h:Ab):Tn K (I v) (I l) h=some (.bool (decide (1<=v)&&decide (v<=l)),h):=by
 simp only[Tn,BZ,I,Ac,Aa];by_cases h1:1<=v<;>by_cases h2:v<=l<;>simp[h1,h2,Aa]
end
end
section
def iO(x y z:Int)(es:List Me):Bool:=(decide (1<=x)&&decide (x<=281474976710655))&&((decide (1<=y)&&decide (y<=4294967295))&&((decide (1<=z)&&decide (z<=281474976710655))&&!nE z es))
theorem rH {a:Ab}{b:Bool}(hg:a.get q=some (.cells [.bool b] 4)):J5 TT [.c (.ptr q 0) 4] a=some (.bool b,a):=by
 have hr:Jo a q 0 1=some [.bool b]:=by unfold Jo;rw[hg];rfl
 unfold J5;simp only[kB,show TT.size 4=some 1 by kernel_rfl,show TT.agg 4=some false by kernel_rfl,hr]
section
variable (H:Bu disp)
include H
theorem YU(he:4<=e)(hK:1000<K)(w1:Ext h0 h1){ll b1:Nat}{es:List Me}(s:Sm g)(m:Oh h1 b ml ll g es)(f:HB h1)(l1:h0.next<=b1)(l2:h0.next<=b2)(lm:ml<h0.next){x y:EV}{z:Int}(g1:h1.get b1=some (.cells [x,y,I z,.ptr b 0] 137))(f1:h1.get b2=some (.cells [.bool false] 4))(t1:tmp tm 1=.ptr b1 0)(t2:tmp tm 2=.ptr b2 0):
 Ok (V9 (Ag TT disp K e false) (Ag TT disp K e true) K tm (.ptr b1 0) (.ptr b2 0) h1 []) fun v h'=>v=.bool (!nE z es)/\Ext h0 h'/\HB h':=by
 have:=s.b0;have:=s.b1;have hlen:=m.len;simp only[V9,Aa];rw[Aj g1 rfl (v:=.ptr b 0) rfl];simp only[Xt,Aa,Fv];rw[Aj m.map rfl (v:=.slice ml 0 g.B.toNat g.B.toNat false) rfl,<-hlen];simp only[Aa];obtain⟨h2,e_,x2,q2,n2⟩:=nW h1 (.cells [.slice ml 0 es.length es.length false] 92);rw[e_];have O:=x2.hb f;have U:tmp (((tm.put 26 (some (.ptr b1 3))).put 27 (some (.ptr b 0))).put 28 (some (.func 192 [] [.ptr h1.next 0]))) 1=.ptr b1 0:=by simp only[Jg,reduceIte,Nat.reduceEqDiff];exact t1
 have V:tmp (((tm.put 26 (some (.ptr b1 3))).put 27 (some (.ptr b 0))).put 28 (some (.func 192 [] [.ptr h1.next 0]))) 2=.ptr b2 0:=by simp only[Jg,reduceIte,Nat.reduceEqDiff];exact t2
 generalize (((tm.put 26 (some (.ptr b1 3))).put 27 (some (.ptr b 0))).put 28 (some (.func 192 [] [.ptr h1.next 0])))=tm at U V⊢;obtain⟨e,rfl⟩:=d_ e;refine Ok.range ?_;have x3:Ext h2 (Cg TT 93 36 0 tm h2):=J2;have k0:(Cg TT 93 36 0 tm h2).get h2.next=some (.deferred true):=L7
 have k1:(Cg TT 93 36 0 tm h2).get (h2.next+1)=some (Ax TT 93 36 0 tm .ready none h2.next):=Kj;generalize Cg TT 93 36 0 tm h2=h3 at x3 k0 k1⊢;have u:=x3.hb O;have p:Ext h1 h3:=x2.trans x3;have az:=f _ _ g1;have a0:=f _ _ f1;have a1:=f _ _ m.row;rw[J0 H (cS _)];simp only[G9,dr];rw[Aj (x3.at O q2) rfl (v:=.slice ml 0 es.length es.length false) rfl];simp only[Aa];have I3:qa h3 (h2.next+1) h2.next tm b1 b2 x y (.ptr b 0) z false:=⟨k1,p.at f g1,p.at f f1,u⟩
 refine(YS (K:=K) H (e:=e) a_ (es:=es) (ml:=ml) a_ U V K 0 h3 a_ a_ I3 (p.at f m.row) a_ a_).mono ?_;rw[dE];rintro _ h4 ⟨W,c4⟩;have a3:=w1.next
 have l4:=W.hb _ _ W.lp;have k2:h2.next<h3.next:=u _ _ k0
 have kd:h4.get h2.next=some (.deferred true):=c4.at u k0 a_
 have x4:Ext h0 h4:=(w1.trans p).then c4 fun i hi a=>a_
 have ne:h2.next≠b2:=a_
 have lp:=W.lp;have c2:=W.c2;have aa:=W.hb;revert lp;generalize nE z es=bb;intro lp;cases bb with
 | true=>
  simp only[bK]at lp;refine .inr ⟨lp,?_⟩;have o:HB (h4.put (h2.next+1) (Ax TT 93 36 0 tm .exhausted (some .ret) h2.next)):=aa.put l4 _;refine Ok.unwind (cF.2 ⟨by simp,dR⟩) (fun d hd=>by rw[aP]at hd;subst hd;rw[Af _];exact kd) o fun h6 E _=>?_
  have g6:h6.get b2=some (.cells [.bool false] 4):=Av.at E o (by rw[Af _];exact c2) (by rw[aP];omega);rw[rH g6];exact .ret ⟨rfl,(x4.Ar (.inr a_) l4 _).then E fun i hi a=>by rw[aP]at hi;omega,E.hb o⟩
 | false=>
  simp only[aX,ak]at lp;refine .inl ⟨lp,?_⟩;simp only[Vv,dr];have o:HB (h4.put (h2.next+1) (Ax TT 93 36 0 tm .exhausted none h2.next)):=aa.put l4 _;have g5:(h4.put (h2.next+1) (Ax TT 93 36 0 tm .exhausted none h2.next)).get b2=some (.cells [.bool false] 4):=by rw[Af _];exact c2
  have x5:Ext h0 (h4.put (h2.next+1) (Ax TT 93 36 0 tm .exhausted none h2.next)):=x4.Ar (.inr a_) l4 _;have d5:(h4.put (h2.next+1) (Ax TT 93 36 0 tm .exhausted none h2.next)).get h2.next=some (.deferred true):=by rw[Af _];exact kd
  generalize h4.put (h2.next+1) (Ax TT 93 36 0 tm .exhausted none h2.next)=h5 at o g5 x5 d5⊢;have l6:=o _ _ g5;refine Ok.hM g5 rfl rfl (by show 0<1;decide) ?_;have J:HB (h5.put b2 (.cells ([EV.bool false].set 0 (.bool true)) 4)):=o.put l6 _;refine Ok.unwind (cF.2 ⟨by simp,dR⟩) (fun d hd=>by rw[aP]at hd;subst hd;rw[Af _ (cR ne)];exact d5) J fun h6 E _=>?_
  have g6:h6.get b2=some (.cells [.bool true] 4):=Av.at E J (Ae _ _ _) (by rw[aP];exact cR ne);rw[rH g6];exact .ret ⟨rfl,(x5.Ar (.inr l2) l6 _).then E fun i hi a=>by rw[aP]at hi;omega,E.hb J⟩
end
end
section
theorem w8 {v l:Int}(h:Ab):Tn K (.int .i64 v) (.int .i64 l) h=some (.bool (decide (1<=v)&&decide (v<=l)),h):=YT h
theorem YV(f1:h1.get b2=some (.cells [.bool false] 4))(w1:Ext h0 h1)(a:HB h1)(f:h0.next<=b2):Ok (hQ 1 (.ptr b2 0) (.bool false) h1 fun h=>Gb [] h fun h=>J5 TT [.c (.ptr b2 0) 4] h) fun v h'=>v=.bool false/\Ext h0 h'/\HB h':=by
 have l:=a _ _ f1;refine Ok.hM f1 rfl rfl (by show 0<1;decide) ?_;show Ok (J5 TT [.c (.ptr b2 0) 4] (h1.put b2 (.cells [.bool false] 4))) _;rw[rH (b:=false) (Ae _ _ _)];exact .ret ⟨rfl,w1.Ar (.inr f) l _,a.put l _⟩
section
variable (H:Bu disp)
include H
theorem B'(hd:5<=d)(hK:1000<K){ll:Nat}{es:List Me}(s:Sm g)(m:Oh h b ml ll g es)(hb:HB h)(x y z:Int):
 Ok (Ag TT disp K d false 93 [.agg [I x,I y,I z,.ptr b 0]] h) fun v h'=>v=.bool (iO x y z es)/\Ext h h'/\HB h':=by
 obtain⟨e,rfl⟩:=d_ d;rw[YW H a_];simp only[B_,Aa];have w1:Ext h ((h.new (.cells [I x,I y,I z,.ptr b 0] 137)).new (.cells [.bool false] 4)):=(Av.new _ _).Db _;have a:((h.new (.cells [I x,I y,I z,.ptr b 0] 137)).new (.cells [.bool false] 4)).get h.next=some (.cells [I x,I y,I z,.ptr b 0] 137):=by rw[Az _ (aN _)];exact Ad _ _
 have f1:((h.new (.cells [I x,I y,I z,.ptr b 0] 137)).new (.cells [.bool false] 4)).get (h.next+1)=some (.cells [.bool false] 4):=Ad _ _;have n1:((h.new (.cells [I x,I y,I z,.ptr b 0] 137)).new (.cells [.bool false] 4)).next=h.next+2:=rfl
 rw[show(h.new (D5.cells [I x,I y,I z,EV.ptr b 0] 137)).next=h.next+1 from rfl];generalize (h.new (.cells [I x,I y,I z,.ptr b 0] 137)).new (.cells [.bool false] 4)=h1 at w1 a f1 n1⊢;have f:=w1.hb hb;have no:=YV (h0:=h) f1 w1 f (Nat.le_succ _);have o:Eu (.tuple []) false=false/\Eu (.tuple []) true=false:=⟨rfl,rfl⟩;unfold iO;rw[Aj a rfl (v:=.ptr b 0) rfl,show ∀k:EV->R,K3 iT (bin TT .eql 40) (.ptr b 0) .Cl k=k (.bool false)from fun k=>by kernel_rfl];simp only[Aa,Ac];rw[Aj a rfl (v:=I x) rfl]
 try simp only[I]
 rw[w8,Au];cases(decide (1<=x)&&decide (x<=281474976710655))with
 | false=>
  simp only[Aa,Ac,Qk,Ms,Jr,bB];exact no
 | true=>
 simp only[Aa,Ac,Qk,bF];rw[Aj a rfl (v:=I y) rfl]
 try simp only[I]
 rw[w8,Au];cases(decide (1<=y)&&decide (y<=4294967295))with
 | false=>
  simp only[Aa,Ac,Ms,Jr,bB];exact no
 | true=>
 simp only[Aa,Ac,Ms,bF];rw[Aj a rfl (v:=I z) rfl]
 try simp only[I]
 rw[w8,Au];cases(decide (1<=z)&&decide (z<=281474976710655))with
 | false=>
  simp only[Aa,Ac,Jr,bB];exact no
 | true=>
 simp only[Aa,Ac,Jr,bF];have m1:=m.frame (w1.get _ (hb _ _ m.map) id) (w1.get _ (hb _ _ m.row) id) (w1.get _ (hb _ _ m.live) id);exact YU H a_ hK w1 s m1 f (aE _) (Nat.le_succ _) (hb _ _ m.row) a f1 (by simp only[Jg,reduceIte,Nat.reduceEqDiff]) (by simp only[Jg,reduceIte,Nat.reduceEqDiff])
end
end
section
def jr(h:Ab)(s:EV)(q:Nat)(e:TypeId)(sz len:Nat)(l:List EV):Prop:=
 Ce h s q e sz len l\/(len=1/\s=.slice q 0 1 1 false/\h.get q=some (.cells l e)/\l.length=sz)
theorem jr.frame{s:EV}{e:TypeId}{len:Nat}{l:List EV}(r:jr h s q e sz len l)(g:0<len->h'.get q=h.get q):jr h' s q e sz len l:=by
 rcases r with r|⟨a,b,c,d⟩
 ·exact .inl (r.frame g)
 ·exact .inr ⟨a,b,by rw[g a_];exact c,d⟩
theorem jr.lt{s:EV}{e:TypeId}{len:Nat}{l:List EV}(r:jr h s q e sz len l)(hb:HB h)(f:0<len):q<h.next:=by
 rcases r with r|⟨a,b,c,d⟩
 ·exact hb _ _ (r.block f)
 ·exact hb _ _ c
theorem YX{s:EV}{e:TypeId}{len:Nat}{l z:List EV}(r:jr h s q e sz len l)(hb:HB h)(hp:v.plain=true)(f:z.length=sz)(a:v.cells.length=sz)(hs:sz<=65536)(u:len<=65535)
 (o:∀h',Ce h' (.slice (h.next+1) 0 (len+1) (len+1) true) (h.next+1) e sz (len+1) (l++v.cells)->h'.next=h.next+2->Av (fun i=>0<len/\i=q) h h'->Ok (k (.slice (h.next+1) 0 (len+1) (len+1) true) h') Q) :
 Ok (Am (Ca z e sz 1 [(0,v)] h) fun w h=>Am (Et e sz s w h) k) Q:=by
 rcases r with r|⟨rfl,rfl,g,ll⟩
 ·exact Ml r hb hp f a hs a_ o
 ·rw[Xb hp f a hs,Au]
  have p:(h.new (.cells v.cells e)).get q=some (.cells l e):=by rw[Az _ (hb _ _ g)];exact g
  have c1:=Y3 (sz:=sz) (Ad h (.cells v.cells e)) a;have c2:=Y3 (sz:=sz) p ll;have e1:Et e sz (.slice q 0 1 1 false) (.slice h.next 0 1 1 false) (h.new (.cells v.cells e))=some (.slice (h.next+1) 0 2 2 true,(h.new (.cells v.cells e)).new (.vec (l++v.cells) e sz)):=by
   unfold Et;simp only[lenOf,Hf,c1,c2,rI];rfl
  rw[e1,Au];refine o _ (.inr ⟨a_,rfl,Ad _ _,by rw[aF,ll,a];omega⟩) rfl ((Av.new _ _).Db _)
def rJ(L:List Fr):Prop:=∀f∈L,f.Wf/\iv f=true
theorem CA(a b c d e:EV){x y:List EV}(h:x.length=y.length):Nb ([a,b,c,d,e]++x) 5 y=some ([a,b,c,d,e]++y):=by
 rw[ub (by rw[aF,h];exact aE _)];have:([a,b,c,d,e]++x).drop (5+y.length) = []:=dc (by rw[aF,h];exact aE _);rw[this,dP];rfl
theorem YY{l:List Nat}(a:l.length=44):jF (Dn [(0,1),(1,1),(2,1),(3,1),(4,1),(5,44)]) [(0,EV.int .i64 4),(1,I zn),(3,I y),(4,I x),(5,.agg (Be l))] (List.replicate 5 (EV.int .i64 0)++List.replicate 44 (EV.int .u8 0))=some (Fr.mk 4 zn 0 y x l).cells:=by
 show Bc (Nat.beq (Gk (Be l)) 44) (oB (fun z=>some z) (Nb ([I 4,I zn,I 0,I y,I x]++List.replicate 44 (.int .u8 0)) 5 (Be l))) none=_;rw[Bg,Bi,a,CA _ _ _ _ _ (by rw[Bi,a,bR])];rfl
theorem w9 {z:Int}{es:List Me}(h:iO x y z es=true):(1<=x/\x<=281474976710655)/\(1<=y/\y<=4294967295)/\1<=z/\z<=281474976710655:=by
 unfold iO at h;simp only[aV,aS]at h;exact⟨h.1,h.2.1,h.2.2.1.1,h.2.2.1.2⟩
def iU(g:Gm)(es:List Me)(x y z zn:Int)(i:Nat):Fr:=if i=0 then⟨4,zn,0,y,x,iN (jW g z)⟩else⟨5,zn,i,y,x,iN (jD es i 2)⟩
def Gl(g:Gm)(es:List Me)(x y z zn:Int)(n:Nat):List Fr:=(List.range n).map (iU g es x y z zn)
theorem rK(g:Gm)(es:List Me)(x y z zn:Int)(n:Nat):(Gl g es x y z zn n).length=n:=by unfold Gl;simp
theorem CB(g:Gm)(es:List Me)(x y z zn:Int)(n:Nat):Gl g es x y z zn (n+1)=Gl g es x y z zn n++[iU g es x y z zn n]:=by unfold Gl;rw[cr,cM];rfl
section
variable (H:Bu disp)
theorem YZ(hK:1000<K){c r:Ah}{ll f:Nat}{es:List Me}(s:Sm g)(m:Oh h0 b ml ll g es)(o:HB h0){z:Int}(x0:1<=x)(x1:x<=281474976710655)(y0:1<=y)(y1:y<=4294967295)(z0:0<=zn)(z1:zn<=65535)(lt:h0.next<=t)(lf:h0.next<=f)(tf:t≠f):
 ∀(n i:Nat) (h:Ab) (v:EV) (q:Nat) (L:List Fr) (F:Fr),g.parts.toNat-i<n->1<=i->i<=g.parts->Ext h0 h->HB h->h.get t=some (.cells [I x,I y,I z,.ptr b 0] 137)->h.get f=some (.cells F.cells 153)->F.Wf->F.Ai=zn->F.Ao=y->F.seq=x->L=Gl g es x y z zn i->rJ L->jr h v q 153 49 i (L.map Fr.cells).flatten->h0.next<=q->q≠t->q≠f ->
 Ok (Th c r K n (.ptr t 0) (.ptr f 0) v (I i) h) fun w h'=>∃v q L,w=.tuple [v,I 0]/\jr h' v q 153 49 L.length (L.map Fr.cells).flatten/\h0.next<=q/\L=Gl g es x y z zn g.parts.toNat/\rJ L/\Ext h0 h'/\HB h':=by
 have:=s.b0;have:=s.b1;have hp:2<=g.parts/\g.parts<=200:=by unfold Gm.parts;omega
 intro n;induction n with
 | zero=>intro i h v q L F hn;omega
 | succ n ih=>
  intro i h v q L F hn i1 hi xx hb gt gf w fz fe fs hL hI row lq qt qf;rw[Th];simp only[Aa];rw[Aj gt rfl (v:=.ptr b 0) rfl];have mh:=m.frame (xx.get _ (o _ _ m.map) id) (xx.get _ (o _ _ m.row) id) (xx.get _ (o _ _ m.live) id);refine(Ke (K:=K) mh hb).Am ?_;rintro _ h2 ⟨rfl,x2,bj⟩;rw[uc s,Au];have V:Ext h (h2.new (.cells (gL g) 23)):=x2.Db _;generalize h2.new (.cells (gL g) 23)=h3 at V⊢;have u:=V.hb hb;have ab:=V.at hb gt;have ay:=V.at hb gf;have E:=row.frame (h':=h3) fun y=>V.get _ (row.lt hb y) id
  simp only[I,Ac];by_cases ad:(i:Int)<g.parts
  ·simp only[ad,aC,Aa,CC]
   rw[Cz ab rfl,Ak (n:=4) rfl];simp only[Aa];have J:Ext h0 h3:=xx.trans V;refine(YO hK s (m.frame (J.get _ (o _ _ m.map) id) (J.get _ (o _ _ m.row) id) (J.get _ (o _ _ m.live) id)) u a_ a_).Am ?_;rintro _ h4 ⟨⟨rfl,hl,hu⟩,x4,az⟩;have eF:iU g es x y z zn i=Fr.mk 5 zn i y x (iN (jD es i 2)):=aG a_;generalize iN (jD es (i:Int) 2)=l at hl hu eF⊢;have ae:=x4.at u ay;have l4:=az _ _ ae;have a1:Ext h0 h4:=J.trans x4;have af:=E.frame (h':=h4) fun y=>x4.get _ (E.lt u y) id
   have a2:=x4.at u ab;refine Ok.hM ae rfl rfl (by rw[Fr.Bh w];decide) ?_;refine Ok.hM (Ae _ _ _) rfl rfl (by rw[bM,Fr.Bh w];decide) ?_;have e5:((F.cells.set 0 (.int .i64 5)).set 2 (.int .i64 (i:Int))) = [I 5,I F.Ai,I i,I F.Ao,I F.seq]++Be F.body:=rfl;rw[e5];refine Ok.st ([I 5,I F.Ai,I i,I F.Ao,I F.seq]++Be l) (Ae _ _ _) rfl (by show Gk (Be l)=44;rw[Bg,Bi,hl]) (CA (y:=Be l) _ _ _ _ _ (by rw[Bi,Bi,w.len,hl])) ?_;have x5:Ext h0 (((h4.put f (.cells (F.cells.set 0 (.int .i64 5)) 153)).put f (.cells ([I 5,I F.Ai,I i,I F.Ao,I F.seq]++Be F.body) 153)).put f (.cells ([I 5,I F.Ai,I i,I F.Ao,I F.seq]++Be l) 153)):=((a1.Ar (.inr lf) l4 _).Ar (.inr lf) l4 _).Ar (.inr lf) l4 _;have O:(((h4.put f (.cells (F.cells.set 0 (.int .i64 5)) 153)).put f (.cells ([I 5,I F.Ai,I i,I F.Ao,I F.seq]++Be F.body) 153)).put f (.cells ([I 5,I F.Ai,I i,I F.Ao,I F.seq]++Be l) 153)).get f=some (.cells (Fr.mk 5 F.Ai i F.Ao F.seq l).cells 153):=Ae _ _ _;have W:(((h4.put f (.cells (F.cells.set 0 (.int .i64 5)) 153)).put f (.cells ([I 5,I F.Ai,I i,I F.Ao,I F.seq]++Be F.body) 153)).put f (.cells ([I 5,I F.Ai,I i,I F.Ao,I F.seq]++Be l) 153)).get t=some (.cells [I x,I y,I z,.ptr b 0] 137):=by
    rw[Af _ (cR tf),Af _ (cR tf),Af _ (cR tf)];exact a2
   have U:=af.frame (h':=(((h4.put f (.cells (F.cells.set 0 (.int .i64 5)) 153)).put f (.cells ([I 5,I F.Ai,I i,I F.Ao,I F.seq]++Be F.body) 153)).put f (.cells ([I 5,I F.Ai,I i,I F.Ao,I F.seq]++Be l) 153))) fun y=>by
    rw[Af _ (cR qf),Af _ (cR qf),Af _ (cR qf)]
   generalize (((h4.put f (.cells (F.cells.set 0 (.int .i64 5)) 153)).put f (.cells ([I 5,I F.Ai,I i,I F.Ao,I F.seq]++Be F.body) 153)).put f (.cells ([I 5,I F.Ai,I i,I F.Ao,I F.seq]++Be l) 153))=h5 at x5 O W U⊢;have p:=x5.hb o;have w5:(Fr.mk 5 F.Ai i F.Ao F.seq l).Wf:=⟨hl,hu⟩;rw[Cp O rfl (Ak (Fr.Bh w5))];refine YX U p rfl rfl (Fr.Bh w5) a_ a_ ?_;intro h6 ag n6 c6;simp only[CE,I,Ac];rw[Ch,show((i:Nat):Int)+1=((i+1:Nat):Int) from a_];have t5:=p _ _ W;have f5:=p _ _ O;refine ih (i+1) h6 _ (h5.next+1) (L++[Fr.mk 5 F.Ai i F.Ao F.seq l]) _ a_ a_ a_ (x5.then c6 fun j hj a=>by omega) (c6.hb p) (c6.at p W fun y=>qt y.2.symm) (c6.at p O fun y=>qf y.2.symm) w5 fz fe fs (by rw[CB,hL,eF,fz,fe,fs]) ?_ ?_ (by have:=x5.next;omega) a_ a_
   ·intro fr a3
    rcases bN.1 a3 with y|y
    ·exact hI fr y
    ·rw[aP]at y
     subst y;refine⟨w5,?_⟩;simp only[iv,wi,aV,aS,fz,fe,fs];omega
   ·rw[cM,dW,show([Fr.mk 5 F.Ai i F.Ao F.seq l].map Fr.cells).flatten=(Fr.mk 5 F.Ai i F.Ao F.seq l).cells from dP _];exact .inl ag
  ·simp only[ad,aA,Aa,CF]
   have eL:L.length=i:=by rw[hL,rK]
   exact .ret ⟨v,q,L,rfl,by rw[eL];exact E,lq,by rw[hL];congr 1;omega,hI,xx.trans V,u⟩
include H
theorem CG(hd:7<=d)(hK:1000<K){ll:Nat}{es:List Me}(hr:rtB g=true)(m:Oh h b ml ll g es)(hb:HB h){z:Int}(hR:iO x y z es=true)(n0:0<=zn)(n1:zn<g.D*g.Z):
 Ok (Ag TT disp K d false 193 [.agg [I x,I y,I z,.ptr b 0],I zn] h) fun w h'=>∃v q L,w=.tuple [v,I 0]/\jr h' v q 153 49 L.length (L.map Fr.cells).flatten/\h.next<=q/\L=Gl g es x y z zn g.parts.toNat/\rJ L/\Ext h h'/\HB h':=by
 have s:=Jp hr;obtain⟨⟨x0,x1⟩,⟨y0,y1⟩,z0,z1⟩:=w9 hR;have:=s.b0;have:=s.b1;have:=s.s0;have:=s.d0;have:=s.d1;have:=s.z0;have:=s.z1;obtain⟨m0,m1⟩:=Rl (a:=g.D) (b:=g.Z) (A:=8) (B:=64);obtain⟨e,rfl⟩:=d_ d;rw[Y0 H a_];simp only[CH,Aa];obtain⟨h1,e_,w1,g1,a6⟩:=nW h (.cells [I x,I y,I z,.ptr b 0] 137);rw[e_];have u:=w1.hb hb;have E:=m.frame (w1.get _ (hb _ _ m.map) id) (w1.get _ (hb _ _ m.row) id) (w1.get _ (hb _ _ m.live) id);rw[Cz g1 rfl,Ak (n:=4) rfl];simp only[Aa];refine(B' (K:=K) H (d:=e) a_ hK s E u x y z).Am ?_;rw[hR];rintro _ h2 ⟨rfl,W,J⟩;have g2:=W.at u g1;simp only[Aa,Ac];rw[Aj g2 rfl (v:=.ptr b 0) rfl];have m2:=E.frame (W.get _ (u _ _ E.map) id) (W.get _ (u _ _ E.row) id) (W.get _ (u _ _ E.live) id);refine(Ke (K:=K) m2 J).Am ?_;rintro _ h3 ⟨rfl,x3,ab⟩;refine(w_ (K:=K) (g:=g) ab zn 0).Am ?_;rintro _ h4 ⟨rfl,x4⟩;have hh:Sr g zn 0=true:=by
  simp only[Sr,hr,wi,bF,aV,aS];omega
 rw[hh];have O:=x4.hb ab;simp only[Aa,CI,CJ];have o:Ext h2 h4:=x3.trans x4;have g4:=o.at J g2;have l4:=O _ _ g4;have m4:=m2.frame (o.get _ (J _ _ m2.map) id) (o.get _ (J _ _ m2.row) id) (o.get _ (J _ _ m2.live) id);rw[Hl l4,Aj g4 rfl (v:=I y) rfl]
 try simp only[Aa,As]
 rw[Hl l4,Aj g4 rfl (v:=I x) rfl]
 try simp only[Aa,As]
 rw[Hl l4,Cz g4 rfl,Ak (n:=4) rfl]
 try simp only[Aa,As]
 refine Ok.bE (P:=fun v h'=>oS v (iN (jW g z))/\Ext h4.lift h') ((YL hK s (m4.frame (Bx _ _) (Bx _ _) (Bx _ _)) (C8 O) a_ a_).mono fun _ _ a=>⟨a.1,a.2.1⟩) (fun _ _ p=>p.2) ?_;rintro _ bb h5 ⟨⟨rfl,hl,hu⟩,_⟩ _ x5;have eF:iU g es x y z zn 0=Fr.mk 4 zn 0 y x (iN (jW g z)):=rfl;generalize iN (jW g z)=l at hl hu eF⊢;have U:=x5.hb O;have g5:=x5.at O g4;have w5:(Fr.mk 4 zn 0 y x l).Wf:=⟨hl,hu⟩;rw[Ay (l:=(Fr.mk 4 zn 0 y x l).cells) ?_]
 ·simp only[Aa,As]
  rw[Hg];refine Ok.nC (xs:=(Fr.mk 4 zn 0 y x l).cells) (Ad _ _) (by simp) (Fr.Bh w5) ?_;obtain⟨h6,e_,x6,g6,n6⟩:=nP h5 (.cells (List.replicate 5 (EV.int .i64 0)++List.replicate 44 (.int .u8 0)) 153) (.cells (Fr.mk 4 zn 0 y x l).cells 153);rw[e_];have V:=x6.hb U;rw[Cz g6 rfl,Ak (Fr.Bh w5)];simp only[Aa];rw[Xb (v:=.agg (Fr.mk 4 zn 0 y x l).cells) rfl (by simp) (Fr.Bh w5),Au];have x7:Ext h6 (h6.new (.cells (Fr.mk 4 zn 0 y x l).cells 153)):=Av.new _ _;have ao:Ext h h6:=(((w1.trans W).trans o).trans x5).trans x6;have aq:Ext h (h6.new (.cells (Fr.mk 4 zn 0 y x l).cells 153)):=ao.trans x7;have k1:=(w1.trans W).next
  have k2:=o.next
  have k3:=x5.next
  have lg:=U _ _ g5;refine YZ hK s m hb x0 x1 y0 y1 n0 a_ (aE _) (f:=h5.next) a_ a_ K 1 _ (.slice h6.next 0 1 1 false) h6.next [Fr.mk 4 zn 0 y x l] (Fr.mk 4 zn 0 y x l) (by unfold Gm.parts;omega) (aE _) (by unfold Gm.parts;omega) aq (x7.hb V) (x7.at V (x6.at U g5)) (x7.at V g6) w5 rfl rfl rfl (by rw[<-eF];rfl) ?_ (.inr ⟨rfl,rfl,?_,?_⟩) a_ a_ a_
  ·intro fr ae
   rw[aP]at ae;subst ae;refine⟨w5,?_⟩;simp only[iv,wi,aV,aS];omega
  ·rw[show([Fr.mk 4 zn 0 y x l].map Fr.cells).flatten=(Fr.mk 4 zn 0 y x l).cells from dP _];exact Ad _ _
  ·rw[show([Fr.mk 4 zn 0 y x l].map Fr.cells).flatten=(Fr.mk 4 zn 0 y x l).cells from dP _];exact Fr.Bh w5
 ·exact YY hl
end
end
section
def ue(X:List (List EV)):Prop:=∀x∈X,x.length=64/\U8 x
theorem jr.ix{s:EV}{e:TypeId}{len:Nat}{l:List EV}(r:jr h s q e sz len l)(hj:j<len)(k:EV->R):iF sz s (I j) k=k (.ptr q (j*sz)):=by
 rcases r with r|⟨rfl,rfl,c,d⟩
 ·exact r.ix hj .i64 k
 ·unfold I;rw[On hj,bP]
theorem jr.lu{s:EV}{e:TypeId}{len:Nat}{l x:List EV}(r:jr h s q e sz len l)(f:0<len){o:Nat}(a:Ou l o n=some x)(k:EV->R):Tt n (.ptr q o) h k=k (.agg x):=by
 rcases r with r|⟨rfl,rfl,c,d⟩
 ·exact Cp (r.block f) rfl a
 ·exact Cp c rfl a
theorem jr.Ip{s:EV}{e:TypeId}{len:Nat}{l:List EV}(r:jr h s q e sz len l)(k:EV->R):Ev.Ip s k=k (I len):=by
 rcases r with r|⟨rfl,rfl,c,d⟩
 ·exact r.Ip k
 ·rfl
theorem Y1 {L:List Fr}(a:rJ L){f:Fr}(hf:L[i]? = some f):Ou (L.map Fr.cells).flatten (i*49) 49=some f.cells:=
 tY (n:=49) _ _ _ (fun x o=>by obtain⟨f,hf,rfl⟩:=dK.1 o;exact Fr.Bh (a f hf).1) (by rw[bH,hf];rfl)
theorem Y2(hK:10000<K){c r:Ah}{v3 W:Nat}{fv:EV}{L:List Fr}(hI:rJ L)(hL:L.length<=200)(l3:h0.next<=v3)(lq:h0.next<=W):
 ∀(n i:Nat) (h:Ab) (v:EV) (q:Nat) (X:List (List EV)),L.length-i<n->i<=L.length->Ext h0 h->HB h0->HB h->h.get v3=some (.cells Bf 68)->jr h fv W 153 49 L.length (L.map Fr.cells).flatten->X=(L.take i).map (fun f=>Be (Jh f))->ue X->Ce h v q 29 64 i X.flatten->(0<i->h0.next<=q/\q≠W/\q≠v3) ->
 Ok (Qr c r K n (.ptr v3 0) v fv (I L.length) (I i) h) fun w h'=>∃v q X,w=.tuple [v,I 0]/\Ce h' v q 29 64 X.length X.flatten/\(0<X.length->h0.next<=q)/\X=L.map (fun f=>Be (Jh f))/\ue X/\Ext h0 h'/\HB h':=by
 intro n;induction n with
 | zero=>intro i h v q X hn;omega
 | succ n ih=>
  intro i h v q X hn hi xx ad hb gv rf U hS row V;rw[Qr];simp only[I,Ac];by_cases o:i<L.length
  ·have:decide ((i:Int)<(L.length:Int))=true:=by simp;omega
   simp only[this,Aa,CK];have w:(L[i]).Wf:=(hI _ (bI o)).1;have fr:=(hI _ (bI o)).2;have e1:=Y1 hI (aD o);have ix:=rf.ix o;simp only[I]at ix;rw[ix,rf.lu a_ e1];have eT:(L.take (i+1)).map (fun f=>Be (Jh f))=(L.take i).map (fun f=>Be (Jh f))++[Be (Jh L[i])]:=by
    rw[br o,cM];rfl
   generalize L[i]=f at w fr e1 eT⊢
   try simp only[Aa]
   refine Ok.mk (by simp) (Fr.Bh w) fun h2 x2 g2 _=>?_
   have u:=x2.hb hb;rw[Cz (x2.at hb gv) rfl,Ak (n:=256) Qe];simp only[Aa];rw[Cp g2 rfl (Ak (Fr.Bh w))];refine(CM w fr u hK).Am ?_;rintro _ h3 ⟨rfl,x3⟩;have ag:=x3.hb u;simp only[Aa];refine Ok.mk (by simp) (by rw[Bi,nH w]) fun h4 x4 g4 _=>?_
   have E:=x4.hb ag;have p:Ext h h4:=(x2.trans x3).trans x4;have el:(Be (Jh f)).length=64:=by rw[Bi,nH w]
   simp only[I,Ac,aB,aA,Aa,CN];rw[Cp g4 rfl (Ak el)];have J:=row.frame (h':=h4) fun y=>p.get _ (hb _ _ (row.block y)) id
   refine Ml J E rfl (by simp) el a_ a_ ?_;intro h5 O n5 c5;simp only[CO,Ac];rw[Ch,show((i:Nat):Int)+1=((i+1:Nat):Int) from a_];have lv:=hb _ _ gv;have ah:=rf.lt hb a_;have nx:=p.next
   have c:Av (fun j=>0<i/\j=q) h h5:=(Ext.to p).trans c5;refine ih (i+1) h5 _ (h4.next+1) (X++[Be (Jh f)]) a_ a_ (xx.then c fun j hj a=>?_) ad (c5.hb E) (c.at hb gv fun y=>(V y.1).2.2 y.2.symm) (rf.frame fun _=>c.get _ ah fun y=>(V y.1).2.1 y.2.symm) (by rw[eT,U]) ?_ ?_ (fun _=>⟨by have:=xx.next;omega,a_,a_⟩)
   ·have:=(V hj.1).1
    have:=hj.2;omega
   ·intro x hx
    rcases bN.1 hx with y|y
    ·exact hS x y
    ·rw[aP]at y
     subst y;exact⟨el,_,xh w,rfl⟩
   ·rw[dW,show([Be (Jh f)]).flatten=Be (Jh f)from dP _];exact O
  ·have:i=L.length:=a_
   subst this;have:decide ((L.length:Int)<(L.length:Int))=false:=by simp
   simp only[this,Aa,CP];rw[bY]at U;have lX:X.length=L.length:=by rw[U,bk]
   exact .ret ⟨v,q,X,rfl,by rw[lX];exact row,fun y=>(V a_).1,U,hS,xx,hb⟩
section
variable (H:Bu disp)
include H
theorem Y'(hd:8<=d)(hK:10000<K){ll:Nat}{es:List Me}(hr:rtB g=true)(m:Oh h b ml ll g es)(hb:HB h){z:Int}(hR:iO x y z es=true)(n0:0<=zn)(n1:zn<g.D*g.Z):
 Ok (Ag TT disp K d false 162 [Us,.agg [I x,I y,I z,.ptr b 0],I zn] h) fun w h'=>∃v q X,w=.tuple [v,I 0]/\Ce h' v q 29 64 X.length X.flatten/\(0<X.length->h.next<=q)/\X=(Gl g es x y z zn g.parts.toNat).map (fun f=>Be (Jh f))/\ue X/\Ext h h'/\HB h':=by
 have s:=Jp hr;have:=s.b0;have:=s.b1;obtain⟨e,rfl⟩:=d_ d;rw[Y_ H a_];simp only[CQ,Us,Aa];have w1:Ext h ((h.new (.cells Bf 68)).new (.cells [I x,I y,I z,.ptr b 0] 137)):=(Av.new _ _).Db _;have c1:((h.new (.cells Bf 68)).new (.cells [I x,I y,I z,.ptr b 0] 137)).get h.next=some (.cells Bf 68):=by rw[Az _ (aN _)];exact Ad _ _
 have U:((h.new (.cells Bf 68)).new (.cells [I x,I y,I z,.ptr b 0] 137)).get (h.next+1)=some (.cells [I x,I y,I z,.ptr b 0] 137):=Ad _ _;have p:((h.new (.cells Bf 68)).new (.cells [I x,I y,I z,.ptr b 0] 137)).next=h.next+2:=rfl
 rw[show(h.new (.cells Bf 68)).next=h.next+1 from rfl];generalize (h.new (.cells Bf 68)).new (.cells [I x,I y,I z,.ptr b 0] 137)=h1 at w1 c1 U p⊢;have a:=w1.hb hb;rw[Cz U rfl,Ak (n:=4) rfl];simp only[Aa];refine(CG (K:=K) H (d:=e) a_ a_ hr (m.frame (w1.get _ (hb _ _ m.map) id) (w1.get _ (hb _ _ m.row) id) (w1.get _ (hb _ _ m.live) id)) a hR n0 n1).Am ?_;rintro _ h2 ⟨v,q,L,rfl,row,lq,hL,W,V,u⟩;simp only[Aa,I,Ac,aB,aA,CR];rw[row.Ip];have hp:g.parts<=200:=by unfold Gm.parts;omega
 have lL:L.length=g.parts.toNat:=by rw[hL,rK]
 have E:Ext h h2:=w1.trans V;refine(Y2 hK W a_ (aE h.next) (by have:=w1.next;omega) K 0 h2 _ 0 [] a_ a_ E hb u (V.at a c1) row rfl (fun x hx=>by cases hx) (Ce.nil _ _ _ _) (fun y=>absurd y (bT _))).mono ?_;rintro _ h3 ⟨v',q',X,rfl,o,J,hX,hS,xx,O⟩;exact⟨v',q',X,rfl,o,J,by rw[hX,hL],hS,xx,O⟩
end
end
structure Dk(S T:J1):Prop where
 n:T.dv.n=S.dv.n
 size:T.dv.size=S.dv.size
 op:T.dv.op=S.dv.op
 ev:T.ev.length+T.Qp.length=S.ev.length+S.Qp.length
theorem Dk.refl(S:J1):Dk S S:=⟨rfl,rfl,rfl,rfl⟩
theorem Dk.trans {S T U:J1}(a:Dk S T)(b:Dk T U):Dk S U:=⟨b.n.trans a.n,b.size.trans a.size,b.op.trans a.op,b.ev.trans a.ev⟩
def Vk(D E:Dv):Prop:=E.n=D.n/\E.size=D.size/\E.op=D.op
theorem ZA(D:Dv)(i:Int)(st:Nat):Vk D (D.fail i st):=by
 unfold Dv.fail;split<;>exact⟨rfl,rfl,rfl⟩
theorem ZB(D:Dv)(z off:Int)(p:List EV):Vk D (D.G8 z off p):=by
 unfold Dv.G8;split<;>exact⟨rfl,rfl,rfl⟩
theorem ZC(D:Dv)(e:Evt):Vk D (D.Sx e):=by
 unfold Dv.Sx
 repeat' split
 all_goals first|exact ZB _ _ _ _|exact ZA _ _ _|exact⟨rfl,rfl,rfl⟩
theorem CS:∀(ev:List Evt) (D:Dv) (Qp:List Evt),Dk ⟨D,ev,Qp⟩ (kC ev D Qp)
 | [],D,Qp=>by unfold kC;exact⟨rfl,rfl,rfl,rfl⟩
 | e::r,D,Qp=>by
  unfold kC;split
  ·exact⟨rfl,rfl,rfl,rfl⟩
  ·have f:=CS r (D.Sx e) (Qp++[e])
   obtain⟨a,b,c⟩:=ZC D e;refine⟨f.n.trans a,f.size.trans b,f.op.trans c,f.ev.trans ?_⟩;show r.length+(Qp++[e]).length=(e::r).length+Qp.length;simp only[aF,bJ,fS];omega
theorem CT(S:J1):Dk S S.due:=CS S.ev S.dv S.Qp
theorem rM(S:J1)(i:Int):Dk S (S.begin i):=by
 unfold J1.begin;split
 ·exact CT S
 ·exact Dk.refl S
theorem rN {S:J1}(v:Vk S.dv D):Dk S { S with dv:=D }:=⟨v.1,v.2.1,v.2.2,rfl⟩
theorem ZD(D:Dv)(i:Int)(x:List EV):Vk D (D.append i x).1:=by
 unfold Dv.append
 repeat' split
 all_goals exact⟨rfl,rfl,rfl⟩
theorem ZE(D:Dv)(i:Int):Vk D (D.reset i).1:=by
 unfold Dv.reset
 repeat' split
 all_goals exact⟨rfl,rfl,rfl⟩
theorem ZF(D:Dv)(i:Int):Vk D (D.finish i).1:=by
 unfold Dv.finish
 repeat' split
 all_goals exact⟨rfl,rfl,rfl⟩
theorem ZG(D:Dv):Vk D D.flush.1:=by
 unfold Dv.flush;split<;>exact⟨rfl,rfl,rfl⟩
theorem ZH(S:J1)(i:Int)(x:List EV):Dk S (S.append i x).1:=(rM S i).trans (rN (S:=S.begin i) (ZD _ i x))
theorem ZI(S:J1)(i:Int):Dk S (S.reset i).1:=(rM S i).trans (rN (S:=S.begin i) (ZE _ i))
theorem ZJ(S:J1)(i:Int):Dk S (S.finish i).1:=(rM S i).trans (rN (S:=S.begin i) (ZF _ i))
theorem uf(S:J1):Dk S S.flush.1:=(CT S).trans (rN (S:=S.due) (ZG _))
structure ZK(disp:Nat->Option FT)(K:Nat)(h:Ab)(m:Nat)(S:Mi)(F:Nat->Prop)(D V:Nat):Prop where
 D8:∀k:EV->Ab->R,Am (Bn K (.ptr m 0) h) k=k (.ptr D 0) h
 Brr:Bn K (.ptr m 0) h.lift=some (.ptr D 0,h.lift)
 table:Ok (Gz K (.ptr m 0) h.lift) fun v h'=>v=Us/\Ext h.lift h'
 device:∀k:EV->Ab->R,Am (Cw K (.ptr D 0) h) k=k (.ptr V 0) h
 state:∀(i:Int) (k:EV->Ab->R),Am (Kr K (.ptr V 0) (I i) h) k=k (I (if S.dr.dv.has i=true then(S.dr.dv.zs i.toNat).st else 4)) h
 reset:∀{d:Nat},14<=d->∀i:Int,0<(S.dr.begin i).dv.size->Ok (Ag TT disp K d false 97 [.ptr D 0,I i] h) fun v h'=>v=I (S.dr.reset i).2/\Da h' m { S with dr:=(S.dr.reset i).1 } F/\Kf F h h'/\HB h'
 finish:∀{d:Nat},14<=d->∀i:Int,Ok (Ag TT disp K d false 166 [.ptr D 0,I i] h) fun v h'=>v=I (S.dr.finish i).2/\Da h' m { S with dr:=(S.dr.finish i).1 } F/\Kf F h h'/\HB h'
 flush:∀{d:Nat},14<=d->Ok (Ag TT disp K d false 61 [.ptr D 0] h) fun v h'=>v=I S.dr.flush.2/\Da h' m { S with dr:=S.dr.flush.1 } F/\Kf F h h'/\HB h'
 append:∀{d:Nat},14<=d->∀(z:Int) {x:List EV},x.length=64->U8 x->∀{i b:Nat} {s:DX} {k:EV->Ab->DX->R} {Q:EV->Ab->Prop},Abk b s=true->loose b s.nw = []->(∀w,Tg b w s.Cy=true) ->
  (∀h' s',Da h' m { S with dr:=(S.dr.append z x).1 } F->Kf F h h'->HB h'->Ok (k (.tuple [I (S.dr.append z x).2.1,I (S.dr.append z x).2.2]) h' s') Q)->Ok (Ev.Ly i b s h (fun h=>Ag TT disp K d false 164 [.ptr D 0,I z,.agg x] h) k) Q
theorem nJ(A:Bu disp)(hK:10000<K){S:Mi}(M:Da h m S F)(hb:HB h):∃D V,ZK disp K h m S F D V:=by
 obtain⟨lt,D,p,bl,ql,np,q,c,G,a⟩:=M.s;obtain⟨V,M',qc,qh,cs,hs,ms,F',b⟩:=a.drv.Ph;have due:mJ disp K S.dr:=rO A a_ S.dr;have J:=a.H5.ext (h':=h.lift) fun i o g=>by rw[Bx];exact g
 refine⟨D,V,⟨fun k=>by rw[Q0 a.H5,Au],Q0 J,CU J (C8 hb),fun k=>by rw[xj b,Au],fun i k=>by rw[ZL b.dev,Au],?_,?_,?_,?_⟩⟩
 ·intro d hd i hs
  refine(YD A a_ hd due a.drv hb i hs).mono ?_;rintro _ h' ⟨rfl,s2,c2,f⟩;obtain⟨M2,u⟩:=M.drv hb a s2 c2;exact⟨rfl,M2,u,f⟩
 ·intro d hd i
  refine(CV A hd due a.drv hb i).mono ?_;rintro _ h' ⟨rfl,s2,c2,f⟩;obtain⟨M2,u⟩:=M.drv hb a s2 c2;exact⟨rfl,M2,u,f⟩
 ·intro d hd
  refine(CW A a_ hd due a.drv hb).mono ?_;rintro _ h' ⟨rfl,s2,c2,f⟩;obtain⟨M2,u⟩:=M.drv hb a s2 c2;exact⟨rfl,M2,u,f⟩
 ·intro d hd z x O hu i b' s k Q b0 b1 b2 U
  refine Ok.rP (S:=G) b0 b1 b2 (CX (K:=K) A a_ (d:=d) hd due a.drv.lift (C8 hb) z O hu) (fun _ _ p=>p.2.2.1) ?_;rintro _ h6 W s' ⟨rfl,d6,_,E⟩ sm c7 _;obtain⟨M7,k7⟩:=M.drv hb a (d6.same sm) c7;exact U W s' M7 k7 (sm.hb E)
section
def arC(m:Nat)(cur Bt:Nat->Int):List EV:=[.ptr m 0,I (cur 0),I (Bt 0),I (cur 1),I (Bt 1),I (cur 2),I (Bt 2)]
section
variable (A:Bu disp)(hK:10000<K){S:Mi}(M:Da h m S F)(hb:HB h)(hA:h.get ar=some (.cells (arC m cur Bt) 124))(fA:F ar){z:Int}
include A hK M hb hA
end
end
section
section
variable (A:Bu disp)(hK:10000<K){ll:Nat}{S:Mi}{es:List Me}(M:Da h m S F)(hb:HB h)(hA:h.get ar=some (.cells (arC m cur Bt) 124))(fA:F ar)(hr:rtB S.g=true)(mp:Oh h b ml ll S.g es){z:Int}(hR:iO x y z es=true)(n0:0<=zn)(n1:zn<S.g.D*S.g.Z)
include A hK M hb hA fA hr mp hR n0 n1
end
end
section
def Mn(f:Nat->Int)(i:Nat)(v:Int):Nat->Int:=fun j=>if j=i then v else f j
theorem CY(hi:i<3):(arC m cur Bt)[1+i*2+1]? = some (I (Bt i)):=by
 rcases i with _|_|_|i<;>first|rfl|omega
theorem CZ(hi:i<3):(arC m cur Bt)[1+i*2]? = some (I (cur i)):=by
 rcases i with _|_|_|i<;>first|rfl|omega
theorem ZM(hi:i<3)(v:Int):(arC m cur Bt).set (1+i*2+1) (I v)=arC m cur (Mn Bt i v):=by
 rcases i with _|_|_|i<;>first|rfl|omega
theorem xk(hi:i<3)(v w:Int):Nb (arC m cur Bt) (1+i*2) [I v,I w]=some (arC m (Mn cur i v) (Mn Bt i w)):=by
 rcases i with _|_|_|i<;>first|rfl|omega
def rQ(S:Mi)(o:Int)(i:Nat):Int × Mi:=
 if ¬o = -1/\S.E8 o=false then(o,S)else match S.ps i with
 | []=>(-1,S)
 | z::r=>(z,{ S with ps:=upd S.ps i r })
section
variable (A:Bu disp)(hK:10000<K){S:Mi}(M:Da h m S F)(hb:HB h)(hA:h.get ar=some (.cells (arC m cur Bt) 124))(fA:F ar)(hi:i<3)
include hK M hb
theorem ZN(hi:i<S.g.D.toNat)
 (O:∀h',(S.ps i = []->Da h' m S F->Kf F h h'->HB h'->Ok (k (.tuple [I 0,I 15]) h') Q)/\(∀z r,S.ps i=z::r->Da h' m { S with ps:=upd S.ps i r } F->Kf F h h'->HB h'->Ok (k (.tuple [I z,I 0]) h') Q)) :
 Ok (Am (Cs K (.ptr m 0) h) fun v h=>Am (Pg K v (I i) h) k) Q:=by
 obtain⟨lt,D,p,bl,ql,np,q,c,G,a⟩:=M.s;rw[Xn a.H5,Au];have u:=a.psz.nd;subst u;refine(xm (K:=K) a.G3 hb a.psz a_ i).Am ?_;rintro _ h' ⟨c3,o,x,e,f_,rfl,V,W,alt⟩;obtain⟨U,cH⟩:=a.qb hb V W c3;have wf:∀{f_},(∀d,d<S.g.D.toNat->∀x∈f_ d,x∈S.ps d)->Mi.Wf { S with ps:=f_ }:=fun sub=>{ toWp:=⟨M.wf.sm,fun d hd x f=>M.wf.ps d hd x (sub d hd x f)⟩,op:=M.wf.op }
 rcases alt with⟨y,_⟩|⟨_,_,y,rfl,rfl,rfl⟩|⟨_,_,rfl,r,y,rfl⟩
 ·omega
 ·obtain⟨E,J⟩:=M.made (So.mono (H:=Out F h) ⟨fun i hi=>aM hi.1 cH.next,D,p,bl,ql,_,q,c,G,U⟩ (fun _=>.inl) (Bm.lt lt cH.next)) cH (wf fun d hd x f=>f)
  exact(O h').1 y E J o
 ·have y:S.ps i=x::r:=y
  obtain⟨E,J⟩:=M.made (So.mono (H:=Out F h) ⟨fun i hi=>aM hi.1 cH.next,D,p,bl,ql,_,q,c,G,U⟩ (fun _=>.inl) (Bm.lt lt cH.next)) cH (wf fun d hd x' f=>by
   unfold upd at f;split at f
   next e=>
    have e:d=i:=e;subst e;rw[y];exact aT _ f
   ·exact f)
  exact(O h').2 x r y E J o
include hA fA hi
theorem ZO(V:Rng (Bt i)):Ok (Sj K (.ptr ar 0) (I i) h) fun v h'=>v=I (rQ S (Bt i) i).1/\Da h' m (rQ S (Bt i) i).2 F/\h'.get ar=some (.cells (arC m cur (Mn Bt i (-1))) 124)/\Av (fun j=>¬F j\/j=ar) h h'/\HB h':=by
 have W:=hb _ _ hA;have sm:=M.wf.sm;have:=sm.d0;simp only[Sj,Aa];unfold I;rw[Vs hi]
 try simp only[Aa]
 rw[Aj hA rfl (CY hi),Vs hi]
 try simp only[Aa]
 refine Ok.hM hA rfl rfl (by show _<7;omega) ?_;rw[show(arC m cur Bt).set (1+i*2+1) (.int .i64 (-1))=arC m cur (Mn Bt i (-1))from ZM hi (-1)];have c1:Av (fun j=>j=ar) h (h.put ar (.cells (arC m cur (Mn Bt i (-1))) 124)):=(Av.refl (S:=fun j=>j=ar) h).Ar (.inl rfl) W _;have f:(h.put ar (.cells (arC m cur (Mn Bt i (-1))) 124)).get ar=some (.cells (arC m cur (Mn Bt i (-1))) 124):=Ae _ _ _;generalize h.put ar (.cells (arC m cur (Mn Bt i (-1))) 124)=h1 at c1 f⊢;have a:=c1.hb hb;have J:=M.iI c1 fun j hj _=>hj▸fA
 have o:Av (fun j=>¬F j\/j=ar) h h1:=c1.mono fun j hj=>.inr hj
 have take:∀h1,Da h1 m S F->HB h1->h1.get ar=some (.cells (arC m cur (Mn Bt i (-1))) 124)->Av (fun j=>¬F j\/j=ar) h h1->Ok (Ti K (.ptr ar 0) (.int .i64 (i:Int)) h1) fun v h'=>v=I (match S.ps i with | []=>(-1,S)|z::r=>(z,{ S with ps:=upd S.ps i r }):Int × Mi).1/\Da h' m (match S.ps i with | []=>(-1,S)|z::r=>(z,{ S with ps:=upd S.ps i r }):Int × Mi).2 F/\h'.get ar=some (.cells (arC m cur (Mn Bt i (-1))) 124)/\Av (fun j=>¬F j\/j=ar) h h'/\HB h':=by
  intro h1 J a f o;simp only[Ti,Aa];rw[Aj f rfl (v:=.ptr m 0) rfl];refine ZN hK J a (i:=i) a_ fun h'=>⟨fun e M2 O p=>?_,fun z r e M2 O p=>?_⟩
  ·rw[e]
   simp only[Aa,I,Ac];exact .ret ⟨rfl,M2,O.at a f fA,o.trans (O.mono fun j hj=>.inl hj),p⟩
  ·rw[e]
   simp only[Aa,I,Ac,aB,aA,C_];exact .ret ⟨rfl,M2,O.at a f fA,o.trans (O.mono fun j hj=>.inl hj),p⟩
 simp only[I,Ac];unfold rQ;by_cases u:Bt i = -1
 ·rw[aG (fun y=>y.1 u)]
  simp only[u,aB,aA,Aa,Ac,Og];exact take _ J a f o
 ·simp only[u,aQ,aC,Aa,Ac,hJ]
  rw[Aj f rfl (v:=.ptr m 0) rfl];refine(J4 (K:=K) J.s a V).Am ?_;rintro _ h2 ⟨rfl,E⟩;have p:=E.hb a;cases U:S.E8 (Bt i)with
  | true=>
   rw[aG (by simp)];simp only[Aa,Og];exact take _ ((J.ext a E).less fun j (hj:F j)=>Or.inl hj) p (E.at a f) (o.trans (Ext.to E))
  | false=>
   rw[aI rfl];simp only[Aa,Og];exact .ret ⟨rfl,(J.ext a E).less fun j (hj:F j)=>Or.inl hj,E.at a f,o.trans (Ext.to E),p⟩
end
end
structure Mk(S T:Mi):Prop where
 g:T.g=S.g
 dr:Dk S.dr T.dr
theorem Mk.refl(S:Mi):Mk S S:=⟨rfl,Dk.refl _⟩
theorem Mk.trans {S T U:Mi}(a:Mk S T)(b:Mk T U):Mk S U:=⟨b.g.trans a.g,a.dr.trans b.dr⟩
theorem DC(S:Mi)(z u:Int):Mk S (S.leave z u).1:=by
 refine⟨(xn S z u).1,?_⟩;unfold Mi.leave;split
 ·exact Dk.refl _
 ·split
  ·exact Dk.refl _
  ·exact ZJ _ _
theorem ZP(S:Mi):Mk S S.close.1:=by
 unfold Mi.close;exact((⟨rfl,Dk.refl _⟩:Mk S { S with a:=-1,b:=-1,u:=0 }).trans (DC _ _ _)).trans (DC _ _ _)
theorem DD(S:Mi)(z:Int):Mk S (S.Ci z).1:=by
 unfold Mi.Ci;split
 ·exact Mk.refl _
 ·split
  ·exact Mk.refl _
  ·split
   ·exact⟨rfl,Dk.refl _⟩
   ·exact(⟨rfl,Dk.refl _⟩:Mk S (S.mark z)).trans (ZP _)
theorem ZQ(S:Mi):Mk S S.ready.1:=by
 refine⟨(DE S).1,?_⟩;unfold Mi.ready;split
 ·exact Dk.refl _
 ·split
  ·exact uf _
  ·split<;>exact uf _
theorem xo(S:Mi)(e:En)(Ai Aw Ao seq:Int):Mk S (S.put e Ai Aw Ao seq).1:=by
 refine⟨(xp S e Ai Aw Ao seq).1,?_⟩;unfold Mi.put;split
 ·exact Dk.refl _
 ·exact ZH _ _ _
theorem ZR(S:Mi)(e:En)(Ao seq:Int):Mk S (S.both e Ao seq).1:=by
 unfold Mi.both;split
 ·exact xo _ _ _ _ _ _
 ·exact(xo _ _ _ _ _ _).trans (xo _ _ _ _ _ _)
theorem DF(S:Mi):Mk S S.ly:=⟨rfl,Dk.refl _⟩
theorem ZS(B:Mi × Int × Int):Mk B.1 (Mi.Ox B):=by
 unfold Mi.Ox;split
 ·exact DF _
 ·exact Mk.refl _
theorem DG(e:En)(Ao seq:Int):∀(n:Nat) (S:Mi),Mk S (Mi.Te e Ao seq n S).1
 | 0,S=>Mk.refl S
 | n+1,S=>by
  have a:=ZQ S;have b:=a.trans (ZR S.ready.1 e Ao seq);have c:=(b.trans (ZS _)).trans (DD _ (S.ready.1.both e Ao seq).2.1);unfold Mi.Te;split
  ·exact a
  ·split
   ·exact b.trans (DF _)
   ·split
    ·exact b
    ·split
     ·exact c
     ·exact c.trans (DG e Ao seq n _)
theorem DH(S:Mi)(e:En)(Ao seq:Int):Mk S (S.place e Ao seq).1:=by
 unfold Mi.place;split
 ·exact Mk.refl _
 ·exact DG _ _ _ _ _
theorem ZT(D:Dv)(i:Int):Vk D (D.begin i):=by
 unfold Dv.begin;split<;>exact⟨rfl,rfl,rfl⟩
theorem DI(S:J1)(i off:Int):Dk S (S.read i off).1:=(rM S i).trans (rN (S:=S.begin i) (ZT _ i))
theorem rS {S:Mi}{D:J1}(d:Dk S.dr D):Mk S { S with dr:=D }:=⟨rfl,d⟩
theorem qd(S:Mi)(x:Me)(Ai Aw:Int):Mk S (S.Dc x Ai Aw).1:=by
 have r:=rS (DI S.dr Ai x.off);unfold Mi.Dc;split
 ·exact r
 ·split
  ·exact r
  ·split
   ·exact r.trans (DD _ _)
   ·exact r
theorem ZU(S:Mi)(x:Me):Mk S (S.read x).1:=by
 unfold Mi.read;split
 ·exact Mk.refl _
 ·split
  ·exact qd _ _ _ _
  ·split<;>exact(qd _ _ _ _).trans (qd _ _ _ _)
theorem ZV(S:Mi)(x:Me):Mk S (S.check x).1:=by
 unfold Mi.check;split
 ·exact Mk.refl _
 ·split
  ·exact qd _ _ _ _
  ·have c:=(qd S x x.Ai x.Aw).trans (qd (S.Dc x x.Ai x.Aw).1 x x.Aw x.Ai)
   unfold Mi.rU;split
   ·exact c
   ·split<;>exact c
theorem ZW:TT.eqs 23=some [0,0,0,0,0,0]:=by kernel_rfl
theorem DJ(a:Int):iV a a=true:=by rw[<-xq,rX];simp
theorem ZX(g:Gm)(k:EV->R):K3 i_ (bin TT .neq 23) (gV g) (gV g) k=k (.bool false):=by
 have h1:jN TT 23 (gV g) (gV g)=some true:=by
  unfold jN gV;rw[ZW];simp only[gL,shaped,I];rw[show Nat.beq 0 0=true from rfl];simp only[Al,Fa,jX,show Nat.beq (Pq .i64) (Pq .i64)=true from rfl,DJ]
 show oB k (match jN TT 23 (gV g) (gV g)with|some b=>some (EV.bool (Bc b false true))|none=>none)=_;rw[h1];rfl
structure Bhq(S:Mi)(cur Bt:Nat->Int):Prop where
 cur:∀i,i<3->cur i = -1\/Bq S.g (cur i)=i
 Bt:∀i,i<3->Bt i = -1\/Bq S.g (Bt i)=i
section
theorem Bhq.of {S T:Mi}(a:Bhq S cur Bt)(g:T.g=S.g):Bhq T cur Bt:=⟨by rw[g];exact a.cur,by rw[g];exact a.Bt⟩
section
variable (A:Bu disp)(hK:10000<K){ll:Nat}{es:List Me}(fA:F ar)(fb:F b/\F ml/\F ll/\b≠ar/\ml≠ar/\ll≠ar){z:Int}(hR:iO x y z es=true)(hi:i<3)
include A hK fA fb hR hi
end
end
section
section
variable (A:Bu disp)(hK:10000<K){ll:Nat}{es:List Me}(fA:F ar)(fb:F b/\F ml/\F ll/\b≠ar/\ml≠ar/\ll≠ar){z:Int}
include A hK fA fb
end
theorem DK(hi:i<3)(h:Ab):rY K (I i) h=some (.bool true,h):=by
 simp only[rY,DL,I,Ac];have e1:decide (0<=(i:Int))=true:=by simp
 have e2:decide ((i:Int)<3)=true:=by simp;omega
 simp only[e1,e2,Aa,Ac]
section
variable{S:Mi}(M:Da h m S F)(hb:HB h)(hA:h.get ar=some (.cells (arC m cur Bt) 124))
include M hb hA
theorem DM{z:Int}(a:z = -1\/Bq S.g z=i):Ok (Q1 K (.ptr ar 0) (I i) (I z) h) fun v h'=>v=.bool true/\Ext h h':=by
 simp only[Q1,I,Ac];have sm:=M.wf.sm;by_cases h1:z = -1
 ·simp only[h1,aC,Aa,Ac,V7]
  exact .ret ⟨rfl,Av.refl _⟩
 ·simp only[h1,aA,Aa,Ac,V7]
  rw[Aj hA rfl (v:=.ptr m 0) rfl];refine(Sw (K:=K) M hb).Am ?_;rintro _ h2 ⟨rfl,f⟩;have hd:=a.resolve_left h1;refine(J8 (K:=K) sm z (Y6 sm a_) h2).Am ?_;rintro _ h3 ⟨rfl,o⟩;simp only[I,Ac,hd,aC,Aa];exact .ret ⟨rfl,f.trans o⟩
theorem ZY(fA:F ar)(hi:i<3){v w:Int}(J:v = -1\/Bq S.g v=i)(hw:w = -1\/Bq S.g w=i)(O:¬v=w):Ok (Tl K (.ptr ar 0) (I i) (I v) (I w) h) fun r h'=>r=I 0/\Da h' m S F/\h'.get ar=some (.cells (arC m (Mn cur i v) (Mn Bt i w)) 124)/\Av (fun j=>j=ar) h h'/\HB h':=by
 simp only[Tl,DK hi,Aa,Ac];refine(DM (K:=K) M hb hA J).Am ?_;rintro _ h2 ⟨rfl,p⟩;have a:=p.hb hb;have M2:=(M.ext hb p).less fun j (hj:F j)=>Or.inl hj
 simp only[Aa,Ac,DN];refine(DM (K:=K) M2 a (p.at hb hA) hw).Am ?_;rintro _ h3 ⟨rfl,u⟩;have f:=u.hb a;have x:Ext h h3:=p.trans u;have U:=(M.ext hb x).less fun j (hj:F j)=>Or.inl hj
 have o:=x.at hb hA;have E:=f _ _ o;simp only[Aa,Ac,DO,I,O,aA,DP,DQ,DR,DS];rw[Ay (l:=[I v,I w]) rfl]
 try simp only[Aa]
 rw[Vs hi];refine Ok.st (arC m (Mn cur i v) (Mn Bt i w)) o rfl rfl (xk hi v w) ?_;have c:Av (fun j=>j=ar) h3 (h3.put ar (.cells (arC m (Mn cur i v) (Mn Bt i w)) 124)):=(Av.refl (S:=fun j=>j=ar) h3).Ar (.inl rfl) E _;exact .ret ⟨rfl,U.iI c fun j hj _=>hj▸fA,Ae _ _ _,(Ext.to x).trans c,f.put E _⟩
end
end
section
structure Co where
 S:Mi
 cur:Nat->Int
 Bt:Nat->Int
 es:List Me
 gen:Int
 ep:Int
 nx:Int
 st:Bool
structure Cb where
 c:Nat
 ar:Nat
 m:Nat
 b:Nat
 ml:Nat
 ll:Nat
def Cb.own(B:Cb)(i:Nat):Prop:=i=B.c\/i=B.ar\/i=B.b\/i=B.ml\/i=B.ll
def Cb.fr(B:Cb)(F:Nat->Prop)(i:Nat):Prop:=F i\/B.own i
def Co.cells(B:Cb)(X:Co):List EV:=[.ptr B.m 0,.ptr B.ar 0,.ptr B.b 0,I X.gen,I X.ep,I X.nx,.bool X.st]
structure Co.Wf(X:Co):Prop where
 rt:rtB X.S.g=true
 an:Bhq X.S X.cur X.Bt
 sz:0<X.S.dr.dv.size
structure Cx(h:Ab)(B:Cb)(X:Co)(F:Nat->Prop):Prop where
 M:Da h B.m X.S (B.fr F)
 core:h.get B.c=some (.cells (X.cells B) 91)
 ar:h.get B.ar=some (.cells (arC B.m X.cur X.Bt) 124)
 map:Oh h B.b B.ml B.ll X.S.g X.es
 wf:X.Wf
 out:∀i,F i->¬B.own i
 hb:HB h
def Ck(X Y:Co):Prop:=Mk X.S Y.S
theorem Ck.refl(X:Co):Ck X X:=Mk.refl _
theorem Ck.trans {X Y Z:Co}(a:Ck X Y)(b:Ck Y Z):Ck X Z:=Mk.trans a b
structure E1(h h':Ab)(B:Cb)(X:Co)(F:Nat->Prop)(Y:Co):Prop where
 C:Cx h' B Y F
 k:Kf F h h'
 ck:Ck X Y
section
variable{B:Cb}{X Y:Co}{F':Nat->Prop}
theorem Cx.ne(C:Cx h B X F):B.c≠B.ar/\B.c≠B.b/\B.c≠B.ml/\B.c≠B.ll/\B.ar≠B.b/\B.ar≠B.ml/\B.ar≠B.ll/\B.b≠B.ml/\B.b≠B.ll/\B.ml≠B.ll:=
 ⟨Ba C.core C.ar (by simp),Ba C.core C.map.map (by simp),Ba C.core C.map.row (by simp),Ba C.core C.map.live (by simp),Ba C.ar C.map.map (by simp),Ba C.ar C.map.row (by simp),Ba C.ar C.map.live (by simp),
  Ba C.map.map C.map.row (by simp),Ba C.map.map C.map.live (by simp),Ba C.map.row C.map.live (by simp)⟩
theorem Cx.sm(C:Cx h B X F):Sm X.S.g:=C.M.wf.sm
theorem E1.refl(C:Cx h B X F):E1 h h B X F X:=⟨C,Av.refl _,Ck.refl _⟩
theorem E1.trans {h2 h3:Ab}{X Y Z:Co}(a:E1 h1 h2 B X F Y)(b:E1 h2 h3 B Y F Z):E1 h1 h3 B X F Z:=⟨b.C,a.k.trans b.k,a.ck.trans b.ck⟩
theorem E1.hb(a:E1 h h' B X F Y):HB h':=a.C.hb
theorem Da.kp{S:Mi}(M:Da h m S F)(k:Kp T h h'):Da h' m S (Bm F h h'):=by
 refine⟨(M.s.frame k.chg.next fun i hi=>k.same i hi.1).mono (fun i hi=>⟨aM hi.1 k.chg.next,fun y=>?_⟩) fun i hi=>hi.1,Bm.lt M.lt k.chg.next,M.wf⟩;rcases y with y|y
 ·exact hi.2 y
 ·have:=hi.1;omega
theorem Cx.kp(C:Cx h B X F)(k:Kp T h h'):Cx h' B X (Bm F h h'):=by
 refine⟨(C.M.kp k).less fun i hi=>?_,k.at C.hb C.core,k.at C.hb C.ar,C.map.ext fun i o g=>k.at C.hb g,C.wf,fun i hi=>?_,k.chg.hb C.hb⟩
 ·rcases hi with(hi|hi)|hi
  ·exact .inl (.inl hi)
  ·exact .inr hi
  ·exact .inl (.inr hi)
 ·rcases hi with hi|hi
  ·exact C.out i hi
  ·intro y
   have a:=C.hb _ _ C.core;have f:=C.hb _ _ C.ar;have p:=C.hb _ _ C.map.map;have u:=C.hb _ _ C.map.row;have E:=C.hb _ _ C.map.live;rcases y with y|y|y|y|y<;>omega
theorem Cx.less(C:Cx h B X F)(s:∀i,F' i->F i):Cx h B X F':=
 ⟨C.M.less fun i hi=>hi.imp (s i) id,C.core,C.ar,C.map,C.wf,fun i hi=>C.out i (s i hi),C.hb⟩
theorem Cx.ext(C:Cx h B X F)(x:Ext h h'):Cx h' B X (Bm F h h'):=C.kp (T:=fun _=>False) (Ext.kp x)
theorem Cx.Xe(C:Cx h B X F)(x:Ext h h'):E1 h h' B X F X:=⟨(C.ext x).less fun _=>.inl,Ext.kf x,Ck.refl _⟩
theorem Cx.ZZ(C:Cx h B X F)(k:Kp T h h')(t:∀i,T i->¬F i):E1 h h' B X F X:=⟨(C.kp k).less fun _=>.inl,k.chg.mono t,Ck.refl _⟩
theorem Co.Wf.H5(w:X.Wf)(mk:Mk X.S S'):({ X with S:=S' }:Co).Wf:=⟨by show rtB S'.g=true;rw[mk.g];exact w.rt,w.an.of mk.g,by show 0<S'.dr.dv.size;rw[mk.dr.size];exact w.sz⟩
theorem Cx.H5(C:Cx h B X F)(f:Da h' B.m S' (B.fr F))(k:Kf (B.fr F) h h')(a:HB h')(mk:Mk X.S S'):E1 h h' B X F { X with S:=S' }:=by
 have g:S'.g=X.S.g:=mk.g;exact⟨⟨f,k.at C.hb C.core (.inr (.inl rfl)),k.at C.hb C.ar (.inr (.inr (.inl rfl))),by
  show Oh h' B.b B.ml B.ll S'.g X.es;rw[g];exact C.map.frame (k.get _ (C.hb _ _ C.map.map) fun y=>y (.inr (.inr (.inr (.inl rfl))))) (k.get _ (C.hb _ _ C.map.row) fun y=>y (.inr (.inr (.inr (.inr (.inl rfl)))))) (k.get _ (C.hb _ _ C.map.live) fun y=>y (.inr (.inr (.inr (.inr (.inr rfl)))))),
  C.wf.H5 mk,C.out,a⟩,k.less fun _=>.inl,mk⟩
theorem Cx.Z'(C:Cx h B X F){a f:Nat->Int}(p:Da h' B.m S' (B.fr F))(hA:h'.get B.ar=some (.cells (arC B.m a f) 124))(c:Av (fun j=>¬B.fr F j\/j=B.ar) h h')(o:HB h')(mk:Mk X.S S')(an:Bhq S' a f):
 E1 h h' B X F { X with S:=S',cur:=a,Bt:=f }:=by
 have g:S'.g=X.S.g:=mk.g;obtain⟨n1,V,n3,n4,u,E,J,W,n9,O⟩:=C.ne;have kp:∀i,B.own i->i≠B.ar->¬(¬B.fr F i\/i=B.ar):=fun i hi U y=>y.elim (fun y=>y (.inr hi)) U
 exact⟨⟨p,c.at C.hb C.core (kp _ (.inl rfl) n1),hA,by
  show Oh h' B.b B.ml B.ll S'.g X.es;rw[g];exact C.map.frame (c.get _ (C.hb _ _ C.map.map) (kp _ (.inr (.inr (.inl rfl))) u.symm)) (c.get _ (C.hb _ _ C.map.row) (kp _ (.inr (.inr (.inr (.inl rfl)))) E.symm)) (c.get _ (C.hb _ _ C.map.live) (kp _ (.inr (.inr (.inr (.inr rfl)))) J.symm)),
  ⟨by show rtB S'.g=true;rw[g];exact C.wf.rt,an,by show 0<S'.dr.dv.size;rw[mk.dr.size];exact C.wf.sz⟩,C.out,o⟩,
  c.mono fun i hi y=>hi.elim (fun w=>w (.inl y)) fun w=>C.out i y (w▸.inr (.inl rfl)),mk⟩
theorem Cx.DT(C:Cx h B X F){a:List Me}(mp:Oh h' B.b B.ml B.ll X.S.g a)(c:Av (fun i=>i=B.ml\/i=B.ll) h h')(f:HB h'):E1 h h' B X F { X with es:=a }:=by
 obtain⟨n1,J,n3,n4,O,p,u,U,V,E⟩:=C.ne;have o:∀i,i=B.ml\/i=B.ll->B.own i:=fun i hi=>hi.elim (fun y=>.inr (.inr (.inr (.inl y)))) fun y=>.inr (.inr (.inr (.inr y)))
 exact⟨⟨C.M.iI c fun i hi _=>.inr (o i hi),c.at C.hb C.core fun y=>y.elim n3 n4,c.at C.hb C.ar fun y=>y.elim p u,mp,⟨C.wf.rt,C.wf.an,C.wf.sz⟩,C.out,f⟩,c.mono fun i hi y=>C.out i y (o i hi),Mk.refl _⟩
theorem Cx.xr(C:Cx h B X F)(g e n:Int)(s:Bool):E1 h (h.put B.c (.cells (({ X with gen:=g,ep:=e,nx:=n,st:=s }:Co).cells B) 91)) B X F { X with gen:=g,ep:=e,nx:=n,st:=s }:=by
 obtain⟨n1,a,n3,n4,o,p,u,E,J,f⟩:=C.ne;have l:=C.hb _ _ C.core;have c:Av (fun i=>i=B.c) h (h.put B.c (.cells (({ X with gen:=g,ep:=e,nx:=n,st:=s }:Co).cells B) 91)):=(Av.refl (S:=fun i=>i=B.c) h).Ar (.inl rfl) l _;exact⟨⟨C.M.iI c fun i hi _=>.inr (.inl hi),Ae _ _ _,by rw[Af _ n1];exact C.ar,C.map.frame (Af _ a) (Af _ n3) (Af _ n4),⟨C.wf.rt,C.wf.an,C.wf.sz⟩,C.out,C.hb.put l _⟩,c.mono fun i hi y=>C.out i y (.inl hi),Mk.refl _⟩
theorem Cx.iI(C:Cx h B X F)(c:Av T h h')(t:∀i,T i->i<h.next->F i)(a:HB h'):Cx h' B X F:=by
 have no:∀i,B.own i->i<h.next->¬T i:=fun i hi f y=>C.out i (t i y f) hi
 have l1:=C.hb _ _ C.core;have E:=C.hb _ _ C.ar;have o:=C.hb _ _ C.map.map;have p:=C.hb _ _ C.map.row;have u:=C.hb _ _ C.map.live;exact⟨C.M.iI c fun i hi f=>.inl (t i hi f),c.at C.hb C.core (no _ (.inl rfl) l1),c.at C.hb C.ar (no _ (.inr (.inl rfl)) E),
  C.map.frame (c.get _ o (no _ (.inr (.inr (.inl rfl))) o)) (c.get _ p (no _ (.inr (.inr (.inr (.inl rfl)))) p)) (c.get _ u (no _ (.inr (.inr (.inr (.inr rfl)))) u)),C.wf,C.out,a⟩
end
section
variable{B:Cb}{X:Co}(C:Cx h B X F)
include C
theorem Cx.iA(k:EV->R):Iy (.ptr B.c 0) h k=k (.ptr B.m 0):=Aj C.core rfl rfl
theorem Cx.Hl(k:EV->R):Iy (.ptr B.c 1) h k=k (.ptr B.ar 0):=Aj C.core rfl rfl
theorem Cx.jc(k:EV->R):Iy (.ptr B.c 2) h k=k (.ptr B.b 0):=Aj C.core rfl rfl
theorem Cx.DU(k:EV->R):Iy (.ptr B.c 3) h k=k (I X.gen):=Aj C.core rfl rfl
theorem Cx.xt(k:EV->R):Iy (.ptr B.c 4) h k=k (I X.ep):=Aj C.core rfl rfl
theorem Cx.lu(k:EV->R):Iy (.ptr B.c 5) h k=k (I X.nx):=Aj C.core rfl rfl
theorem Cx.DV(k:EV->R):Iy (.ptr B.c 6) h k=k (.bool X.st):=Aj C.core rfl rfl
end
end
variable {X Y:Co}{B:Cb}
section
theorem Z_:(Fw TT 26 0).2.1 = [8]:=by kernel_rfl
theorem γ {a b:EV}(hj:j<2)(k:EV->R):kD 2 1 false 1 (.agg [a,b]) (I j) k=k (if j=0 then a else b):=by
 rcases j with _|_|j<;>first|rfl|omega
theorem δ {a:Nat->Int}{o:Nat->Int}(hi:i<3)(k:EV->R):kD 3 2 true 2 (.agg [I (a 0),I (o 0),I (a 1),I (o 1),I (a 2),I (o 2)]) (I i) k=k (.agg [I (a i),I (o i)]):=by
 rcases i with _|_|_|i<;>first|rfl|omega
def T2(x z:Int):Bool:=decide (¬x = -1)&&decide (x=z)
theorem ε {z:Int}(h:¬x=z):T2 x z=false:=by unfold T2;rw[aL h,dV]
theorem ζ {z:Int}(h:¬x = -1)(e:x=z):T2 x z=true:=by unfold T2;rw[aO h,aO e];rfl
def nK(cur Bt:Nat->Int)(z:Int):Nat->Bool
 | 0=>false
 | i+1=>nK cur Bt z i||(T2 (cur i) z||T2 (Bt i) z)
def Vx(cur Bt:Nat->Int)(z:Int):Bool:=nK cur Bt z 3
theorem DW{z:Int}(hi:i<=3)(h:nK cur Bt z i=true):Vx cur Bt z=true:=by
 have st:∀i,nK cur Bt z i=true->nK cur Bt z (i+1)=true:=fun i h=>by
  show(nK cur Bt z i||(T2 (cur i) z||T2 (Bt i) z))=true;rw[h];rfl
 unfold Vx;rcases i with _|_|_|_|i
 ·cases h
 ·exact st _ (st _ h)
 ·exact st _ h
 ·exact h
 ·omega
structure mK(h:Ab)(l0 d0:Nat)(tm:Bb)(b3 b4:Nat)(z:Int)(found:Bool):Prop where
 lp:h.get l0=some (Ax TT 26 12 0 tm (if found then .done else .ready) (if found then some .ret else none) d0)
 c3:h.get b3=some (.cells [I z] 3)
 c4:h.get b4=some (.cells [.bool found] 4)
 hb:HB h
section
variable (H:Bu disp){d0 b3 b4:Nat}{z:Int}(t3:tmp tm 3=.ptr b3 0)(t4:tmp tm 4=.ptr b4 0)
include H t3 t4
theorem η(he:1<=e)(V:mK h l0 d0 tm b3 b4 z false):
 ∃h',Ag TT disp K (e+1) true l0 [I x] h=some (.bool (decide (¬x=z)),h')/\mK h' l0 d0 tm b3 b4 z (decide (x=z))/\Av (fun j=>j=l0\/j=b4) h h':=by
 have hg:=V.lp;simp only[aX,ak]at hg;have p:=hg;have g3:=V.c3;have W:=V.c4;have hb:=V.hb;unfold Ax at p;rw[Z_]at p;rw[θ H he tm h (I x) p,t3,t4];have U:=hb _ _ hg;have af:=hb _ _ W;have u:l0≠b3:=Ba hg g3 (by simp[Ax]);have a:l0≠b4:=Ba hg W (by simp[Ax]);have ab:b3≠b4:=Ba g3 W (by simp[I]);simp only[DY,oT hg,Z9,dr];have f:(h.put l0 (Ax TT 26 12 0 tm .busy none d0)).get b3=some (.cells [I z] 3):=by rw[Af _ u];exact g3
 have E:(h.put l0 (Ax TT 26 12 0 tm .busy none d0)).get b4=some (.cells [.bool false] 4):=by rw[Af _ a];exact W
 have J:(h.put l0 (Ax TT 26 12 0 tm .busy none d0)).get l0=some (Ax TT 26 12 0 tm .busy none d0):=Ae _ _ _;have x1:Av (fun j=>j=l0\/j=b4) h (h.put l0 (Ax TT 26 12 0 tm .busy none d0)):=(Av.refl h).Ar (.inl (.inl rfl)) U _;have O:HB (h.put l0 (Ax TT 26 12 0 tm .busy none d0)):=hb.put U _;have n1:(h.put l0 (Ax TT 26 12 0 tm .busy none d0)).next=h.next:=rfl
 generalize h.put l0 (Ax TT 26 12 0 tm .busy none d0)=h1 at f E J x1 O n1⊢;simp only[Cy f rfl,Aa,I,Ac];by_cases hx:x=z
 ·simp only[hx,aC,Aa,aB,aA]
  rw[nG (o:=0) (n:=1) (v:=.bool true) (l':=[.bool true]) E rfl rfl rfl,Si (by rw[Af _ (cR a)];exact J)];exact⟨_,rfl,⟨Ae _ _ _,by rw[Af _ u,Af _ (cR ab)];exact f,by rw[Af _ a];exact Ae _ _ _,(O.put a_ _).put (by rw[Ab.Qv];omega) _⟩,(x1.Ar (.inl (.inr rfl)) a_ _).Ar (.inl (.inl rfl)) (by rw[Ab.Qv];omega) _⟩
 ·simp only[hx,aA,Aa,aQ,aC]
  rw[Si J];exact⟨_,rfl,⟨Ae _ _ _,by rw[Af _ u];exact f,by rw[Af _ a];exact E,O.put a_ _⟩,x1.Ar (.inl (.inl rfl)) a_ _⟩
def rZ(h:Ab)(l0 d0:Nat)(tm:Bb)(b3 b4:Nat)(z:Int)(f:Bool):EV->Ab->Prop:=fun _ h'=>mK h' l0 d0 tm b3 b4 z f/\Av (fun j=>j=l0\/j=b4) h h'
theorem ι(he:2<=e){v10 v11:EV}{f:Bool}(J:T2 x z=true->f=true)(O:T2 y z=true->f=true)
 (hk:T2 x z=false->T2 y z=false->∀h,mK h l0 d0 tm b3 b4 z false->Av (fun j=>j=l0\/j=b4) h0 h->Ok (K5 (Ag TT disp K e false) (Ag TT disp K e true) K nB (.Vz l0) v10 v11 h) (rZ h0 l0 d0 tm b3 b4 z f)) :
 ∀(m j:Nat) (h:Ab),2-j<m->j<=2->(1<=j->T2 x z=false)->(2<=j->T2 y z=false)->mK h l0 d0 tm b3 b4 z false->Av (fun j=>j=l0\/j=b4) h0 h ->
  Ok (E0 (Ag TT disp K e false) (Ag TT disp K e true) K nB m (.Vz l0) v10 v11 (.agg [I x,I y]) (I j) h) (rZ h0 l0 d0 tm b3 b4 z f):=by
 intro m;induction m with
 | zero=>intro j h hm;omega
 | succ m ih=>
  intro j h hm hj jx jy U c0;rw[E0];simp only[I,Ac];by_cases V:j<2
  ·have e3:decide ((j:Int)<2)=true:=by simp;omega
   simp only[e3,Aa,DZ];have pv:=fun k=>γ (a:=I x) (b:=I y) V k
   simp only[I]at pv;rw[pv];have go:∀v:Int,(T2 v z=true->f=true)->(T2 v z=false->(1<=j+1->T2 x z=false)/\(2<=j+1->T2 y z=false))->Ok (K3 i_ (bin TT .neq 3) (.int .i64 v) (.int .i64 (-1)) fun o=>Bc (Eu o true)
    (Am (Ue (Ag TT disp K e false) (Ag TT disp K e true) (.Vz l0) [.int .i64 v] h) fun W h=>jt W fun aa=>Iu (Ag TT disp K e false) (Ag TT disp K e true) K nB (E0 (Ag TT disp K e false) (Ag TT disp K e true) K nB m) (.Vz l0) v10 v11 (.agg [.int .i64 x,.int .i64 y]) (.int .i64 (j:Int)) o aa h)
    (Iu (Ag TT disp K e false) (Ag TT disp K e true) K nB (E0 (Ag TT disp K e false) (Ag TT disp K e true) K nB m) (.Vz l0) v10 v11 (.agg [.int .i64 x,.int .i64 y]) (.int .i64 (j:Int)) o (.tuple []) h)) (rZ h0 l0 d0 tm b3 b4 z f):=by
    intro v ab E;have nx:T2 v z=false->∀h2,mK h2 l0 d0 tm b3 b4 z false->Av (fun j=>j=l0\/j=b4) h0 h2->Ok (Ur (Ag TT disp K e false) (Ag TT disp K e true) K nB (E0 (Ag TT disp K e false) (Ag TT disp K e true) K nB m) (.Vz l0) v10 v11 (.agg [.int .i64 x,.int .i64 y]) (.int .i64 (j:Int)) h2) (rZ h0 l0 d0 tm b3 b4 z f):=by
     intro hp h2 p c2;simp only[Ur,Ac];rw[Ch,show((j:Nat):Int)+1=((j+1:Nat):Int) from a_];exact ih (j+1) h2 a_ a_ (E hp).1 (E hp).2 p c2
    simp only[Ac];by_cases h1:v = -1
    ·simp only[h1,aB,aA,Aa,Ac,Iu]
     exact nx (by unfold T2;rw[aL (fun y=>y h1),bB]) h U c0
    ·have ad:=h1
     simp only[h1,aQ,aC,Aa,Ac];obtain⟨e,rfl⟩:=d_ e;obtain⟨h2,r1,p,c2⟩:=η (K:=K) H t3 t4 (e:=e) a_ (x:=v) U;have hc:Ue (Ag TT disp K (e+1) false) (Ag TT disp K (e+1) true) (.Vz l0) [.int .i64 v] h=some (.bool (decide (¬v=z)),h2):=r1;rw[hc,Au];by_cases u:v=z
     ·have hf:=ab (ζ ad u)
      simp only[u,aC]at p;simp only[u,aB,aA,Aa,Iu];rw[hf];exact .ret ⟨p,c0.trans c2⟩
     ·have hp:=ε u
      simp only[u,aA]at p;simp only[u,aQ,aC,Aa,Iu];exact nx hp h2 p (c0.trans c2)
   rcases j with _|_|j
   ·exact go x J fun hp=>⟨fun _=>hp,fun y=>a_⟩
   ·exact go y O fun hp=>⟨fun _=>jx a_,fun _=>hp⟩
   ·omega
  ·have:j=2:=a_
   subst this;simp only[show decide (((2:Nat):Int)<2)=false from rfl,Aa];exact hk (jx a_) (jy a_) h U c0
theorem κ(hK:5<K)(he:2<=e):∀(m i:Nat) (h:Ab),3-i<m->i<=3->nK cur Bt z i=false->mK h l0 d0 tm b3 b4 z false->Av (fun j=>j=l0\/j=b4) h0 h ->
 Ok (Gw (Ag TT disp K e false) (Ag TT disp K e true) K m (.Vz l0) (.agg [I (cur 0),I (Bt 0),I (cur 1),I (Bt 1),I (cur 2),I (Bt 2)]) (I i) h) (rZ h0 l0 d0 tm b3 b4 z (Vx cur Bt z)):=by
 intro m;induction m with
 | zero=>intro i h hm;omega
 | succ m U=>
  intro i h hm hi p f c0;rw[Gw];unfold I;simp only[Ac];by_cases E:i<3
  ·have e3:decide ((i:Int)<3)=true:=by simp;omega
   simp only[e3,Aa,D_];have J:=fun k=>δ (a:=cur) (o:=Bt) E k
   simp only[I]at J;rw[J]
   try simp only[Aa]
   refine Ok.mk rfl rfl fun h2 u O _=>?_
   have V:mK h2 l0 d0 tm b3 b4 z false:=⟨u.at f.hb f.lp,u.at f.hb f.c3,u.at f.hb f.c4,u.hb f.hb⟩;rw[Aj O rfl (v:=I (cur i)) rfl,Aj O rfl (v:=I (Bt i)) rfl,Ay (l:=[I (cur i),I (Bt i)]) rfl];refine ι (K:=K) H t3 t4 he (fun hp=>DW (i:=i+1) a_ (by show(_||(T2 (cur i) z||T2 (Bt i) z))=true;rw[hp];simp)) (fun hp=>DW (i:=i+1) a_ (by show(_||(T2 (cur i) z||T2 (Bt i) z))=true;rw[hp];simp)) ?_ K 0 h2 a_ a_ (fun y=>by omega) (fun y=>by omega) V (c0.trans (Ext.to u));intro W py h3 I3 c3;simp only[K5,Ac];rw[Ch,show((i:Nat):Int)+1=((i+1:Nat):Int) from a_];exact U (i+1) h3 a_ a_ (by show(nK cur Bt z i||(T2 (cur i) z||T2 (Bt i) z))=false;rw[p,W,py];rfl) I3 c3
  ·have:i=3:=a_
   subst this;simp only[show decide (((3:Nat):Int)<3)=false from rfl,Aa];rw[show Vx cur Bt z=false from p];exact .ret ⟨f,c0⟩
end
section
variable (H:Bu disp)
include H
theorem EA(hd:5<=d)(hK:1000<K)(hA:h.get ar=some (.cells (arC m cur Bt) 124))(hb:HB h)(z:Int):
 Ok (Ag TT disp K d false 26 [.ptr ar 0,I z] h) fun v h'=>v=.bool (Vx cur Bt z)/\Ext h h'/\HB h':=by
 obtain⟨e,rfl⟩:∃k,d=k+2:=⟨d-2,a_⟩;rw[μ H a_];simp only[EB,I,Aa,xv];have x1:Ext h (((h.new (.cells [.int .i64 z] 3)).new (.cells [.bool false] 4)).new (.cells [.ptr ar 0] 72)):=((Av.new _ _).Db _).Db _;have n1:(((h.new (.cells [.int .i64 z] 3)).new (.cells [.bool false] 4)).new (.cells [.ptr ar 0] 72)).next=h.next+3:=rfl
 have gb:(((h.new (.cells [.int .i64 z] 3)).new (.cells [.bool false] 4)).new (.cells [.ptr ar 0] 72)).get (h.next+2)=some (.cells [.ptr ar 0] 72):=Ad _ _;have g4:(((h.new (.cells [.int .i64 z] 3)).new (.cells [.bool false] 4)).new (.cells [.ptr ar 0] 72)).get (h.next+1)=some (.cells [.bool false] 4):=by
  rw[Az _ (aN _)];exact Ad _ _
 have g3:(((h.new (.cells [.int .i64 z] 3)).new (.cells [.bool false] 4)).new (.cells [.ptr ar 0] 72)).get h.next=some (.cells [I z] 3):=by
  rw[Az _ (show h.next<h.next+2 from a_),Az _ (show h.next<h.next+1 from a_)];exact Ad _ _
 rw[show((h.new (.cells [.int .i64 z] 3)).new (.cells [.bool false] 4)).next=h.next+2 from rfl,show(h.new (.cells [.int .i64 z] 3)).next=h.next+1 from rfl];generalize ((h.new (.cells [.int .i64 z] 3)).new (.cells [.bool false] 4)).new (.cells [.ptr ar 0] 72)=h1 at x1 n1 gb g4 g3⊢;have p:=x1.hb hb;generalize E:((((((Tr.nil.put 0 (some (EV.ptr ar 0))).put 1 (some (EV.int .i64 z))).put 3 (some (EV.ptr h.next 0))).put 4 (some (EV.ptr (h.next+1) 0))).put 6 (some (EV.ptr ar 0))).put 7 (some (EV.func 89 [] [EV.ptr (h.next+2) 0])))=tm;have t3:tmp tm 3=.ptr h.next 0:=by rw[<-E];simp only[Jg,reduceIte,Nat.reduceEqDiff]
 have t4:tmp tm 4=.ptr (h.next+1) 0:=by rw[<-E];simp only[Jg,reduceIte,Nat.reduceEqDiff]
 clear E;refine Ok.range ?_;rw[ν H (cS _)];simp only[EC,dr];have J:Ext h1 (Cg TT 26 12 0 tm h1):=J2;have k0:(Cg TT 26 12 0 tm h1).get h1.next=some (.deferred true):=L7
 have k1:(Cg TT 26 12 0 tm h1).get (h1.next+1)=some (Ax TT 26 12 0 tm .ready none h1.next):=Kj;generalize Cg TT 26 12 0 tm h1=h3 at J k0 k1⊢;have W:=J.hb p;have ae:h3.get ar=some (.cells (arC m cur Bt) 124):=J.at p (x1.at hb hA);rw[Aj (J.at p gb) rfl (v:=.ptr ar 0) rfl];simp only[Aa];rw[Cp ae rfl (show Ou (arC m cur Bt) 1 6=some [I (cur 0),I (Bt 0),I (cur 1),I (Bt 1),I (cur 2),I (Bt 2)]from rfl)];have I3:mK h3 (h1.next+1) h1.next tm h.next (h.next+1) z false:=⟨k1,J.at p g3,J.at p g4,W⟩
 refine(κ (K:=K) H t3 t4 a_ (e:=e) a_ (cur:=cur) (Bt:=Bt) K 0 h3 a_ a_ rfl I3 (Av.refl _)).mono ?_;rintro _ h4 ⟨u,c4⟩;generalize Vx cur Bt z=b at u⊢;have l4:=u.hb _ _ u.lp;have kd:h4.get h1.next=some (.deferred true):=c4.at W k0 a_
 have x4:Ext h h4:=(x1.trans J).then c4 fun i hi a=>a_
 have l5:=u.hb _ _ u.c4;have f:∀(O:Ab) (b:Bool),O.get (h.next+1)=some (.cells [.bool b] 4)->J5 TT [.c (.ptr (h.next+1) 0) 4] O=some (.bool b,O):=by
  intro O b hg;have hr:Jo O (h.next+1) 0 1=some [.bool b]:=by unfold Jo;rw[hg];rfl
  unfold J5;simp only[kB,show TT.size 4=some 1 by kernel_rfl,show TT.agg 4=some false by kernel_rfl,hr]
 have lp:=u.lp;cases b with
 | true=>
  simp only[bK]at lp;refine .inr ⟨lp,?_⟩;have o:HB (h4.put (h1.next+1) (Ax TT 26 12 0 tm .exhausted (some .ret) h1.next)):=u.hb.put l4 _;refine Ok.unwind (cF.2 ⟨by simp,dR⟩) (fun d hd=>by rw[aP]at hd;subst hd;rw[Af _];exact kd) o fun h6 U _=>?_
  have g6:h6.get (h.next+1)=some (.cells [.bool true] 4):=Av.at U o (by rw[Af _];exact u.c4) (by rw[aP];omega);rw[f h6 true g6];exact .ret ⟨rfl,(x4.Ar (.inr a_) l4 _).then U fun i hi a=>by rw[aP]at hi;omega,U.hb o⟩
 | false=>
  simp only[aX,ak]at lp;refine .inl ⟨lp,?_⟩;simp only[Ym,dr];have o:HB (h4.put (h1.next+1) (Ax TT 26 12 0 tm .exhausted none h1.next)):=u.hb.put l4 _;have g5:(h4.put (h1.next+1) (Ax TT 26 12 0 tm .exhausted none h1.next)).get (h.next+1)=some (.cells [.bool false] 4):=by rw[Af _];exact u.c4
  have x5:Ext h (h4.put (h1.next+1) (Ax TT 26 12 0 tm .exhausted none h1.next)):=x4.Ar (.inr a_) l4 _;have d5:(h4.put (h1.next+1) (Ax TT 26 12 0 tm .exhausted none h1.next)).get h1.next=some (.deferred true):=by rw[Af _];exact kd
  generalize h4.put (h1.next+1) (Ax TT 26 12 0 tm .exhausted none h1.next)=O at o g5 x5 d5⊢;have l6:=o _ _ g5;refine Ok.hM g5 rfl rfl (by show 0<1;decide) ?_;have V:HB (O.put (h.next+1) (.cells ([EV.bool false].set 0 (.bool false)) 4)):=o.put l6 _;refine Ok.unwind (cF.2 ⟨by simp,dR⟩) (fun d hd=>by rw[aP]at hd;subst hd;rw[Af _];exact d5) V fun h6 U _=>?_
  have g6:h6.get (h.next+1)=some (.cells [.bool false] 4):=Av.at U V (Ae _ _ _) (by rw[aP];omega);rw[f h6 false g6];exact .ret ⟨rfl,(x5.Ar (.inr a_) l6 _).then U fun i hi a=>by rw[aP]at hi;omega,U.hb V⟩
end
end
section
theorem ξ(A:Bu disp)(hK:10000<K){S:Mi}(M:Da h m S F)(hb:HB h)(hd:7<=d)(z:Int)
 (u:∀h' T,Kp T h h'->(∀i,T i->¬F i)->HB h'->Ok (k (.bool (hasB S.ps S.g.D.toNat z)) h') Q):Ok (Am (Cs K (.ptr m 0) h) fun v h=>Am (Ag TT disp K d false 59 [v,I z] h) k) Q:=by
 obtain⟨lt,D,p,bl,ql,np,q,c,G,a⟩:=M.s;rw[Xn a.H5,Au];have f:=a.psz.nd;obtain⟨b1,b2,b3⟩:=a.psz.bd;subst f;refine(ED (K:=K) A a.G3 hb a.psz.cap a_ a_ hd a_ z).Am ?_;rintro _ h' ⟨rfl,E,o⟩;refine u h' _ E (fun i hi y=>?_) o;obtain⟨d,hd,rfl⟩:=hi;exact(a.sub.2.2.2.2.2 d hd).2.2 y
theorem ο(hK:10000<K){S:Mi}(M:Da h m S F)(hb:HB h)
 (o:∀h',Ext h h'->Ok (k (I (F2 S.ps S.g.D.toNat)) h') Q):Ok (Am (Cs K (.ptr m 0) h) fun v h=>Am (Iz K v h) k) Q:=by
 obtain⟨lt,D,p,bl,ql,np,q,c,G,a⟩:=M.s;rw[Xn a.H5,Au];have f:=a.psz.nd;subst f;refine(EE (K:=K) a.G3 hb a.psz.small).Am ?_;rintro _ h' ⟨rfl,x⟩;exact o h' x
structure Qt(F:Nat->Prop)(h h':Ab):Prop where
 Ph:∃T,Kp T h h'/\∀i,T i->¬F i
 hb:HB h'
theorem Qt.refl(hb:HB h):Qt F h h:=⟨⟨fun _=>False,Kp.refl _,fun _ y=>y.elim⟩,hb⟩
theorem Qt.ext(x:Ext h h')(hb:HB h):Qt F h h':=⟨⟨fun _=>False,Ext.kp x,fun _ y=>y.elim⟩,x.hb hb⟩
theorem Qt.trans{a b c:Ab}(x:Qt F a b)(y:Qt F b c):Qt F a c:=by
 obtain⟨⟨T,k,t⟩,_⟩:=x;obtain⟨⟨U,l,u⟩,hb⟩:=y;refine⟨⟨fun i=>T i\/U i,Kp.trans ⟨k.chg.mono fun i=>.inl,k.same⟩ ⟨l.chg.mono fun i=>.inr,l.same⟩,fun i hi=>hi.elim (t i) (u i)⟩,hb⟩
theorem Cx.rd(C:Cx h B X F)(r:Qt F h h'):E1 h h' B X F X:=by
 obtain⟨⟨T,k,t⟩,_⟩:=r;exact C.ZZ k t
theorem Qt.next(r:Qt F h h'):h.next<=h'.next:=by
 obtain⟨⟨T,k,t⟩,_⟩:=r;exact k.chg.next
def Co.closed(X:Co)(z:Int):Bool:=decide (0<=Bq X.S.g z)&&(decide (¬z=X.S.a)&&(decide (¬z=X.S.b)&&(!X.S.E8 z&&(!Vx X.cur X.Bt z&&!hasB X.S.ps X.S.g.D.toNat z))))
theorem xw(A:Bu disp)(hK:10000<K)(C:Cx h B X F)(hd:8<=d){z:Int}(J:Rng z):Ok (Ag TT disp K d false 95 [.ptr B.c 0,I z] h) fun v h'=>v=.bool (X.closed z)/\Qt F h h':=by
 obtain⟨e,rfl⟩:=d_ d;rw[π A a_];simp only[EF,Aa];rw[C.iA,ς C.M]
 try simp only[Aa]
 rw[C.iA];refine(Sw (K:=K) C.M C.hb).Am ?_;rintro _ h2 ⟨rfl,x2⟩;refine(J8 (K:=K) C.sm z J h2).Am ?_;rintro _ h3 ⟨rfl,x3⟩;have x:Ext h h3:=x2.trans x3;have f:=(C.Xe x).C;have p:Qt F h h3:=Qt.ext x C.hb;unfold Co.closed;simp only[I,Ac];have af:Eu (.tuple []) false=false/\Eu (.tuple []) true=false:=⟨rfl,rfl⟩;by_cases c1:0<=Bq X.S.g z
 case neg=>
  simp only[c1,aA,Aa,Ac,Uy,Oz,Is,Gx,Fz,bB];exact .ret ⟨rfl,p⟩
 simp only[c1,aC,Aa,Ac,Uy,bF];by_cases c2:z=X.S.a
 ·simp only[c2,aB,aA,Aa,Ac,Oz,Is,Gx,Fz,bB]
  exact .ret ⟨rfl,p⟩
 simp only[c2,aQ,aC,Aa,Ac,Oz,bF];by_cases c3:z=X.S.b
 ·simp only[c3,aB,aA,Aa,Ac,Is,Gx,Fz,bB]
  exact .ret ⟨rfl,p⟩
 simp only[c3,aQ,aC,Aa,Ac,bF];rw[f.iA];refine(J4 (K:=K) f.M.s f.hb J).Am ?_;rintro _ h4 ⟨rfl,O⟩;have U:Qt F h h4:=p.trans (Qt.ext O f.hb);have o:=(f.Xe O).C;cases X.S.E8 z with
 | true=>
  simp only[Aa,Ac,Is,Gx,Fz,fG,bB];exact .ret ⟨rfl,U⟩
 | false=>
 simp only[Aa,Ac,Is,dI,bF];rw[o.Hl];have V:=EA (K:=K) A (d:=e) a_ a_ o.ar o.hb z;simp only[I]at V;refine V.Am ?_;rintro _ h5 ⟨rfl,W,_⟩;have r5:Qt F h h5:=U.trans (Qt.ext W o.hb);have u:=(o.Xe W).C;cases Vx X.cur X.Bt z with
 | true=>
  simp only[Aa,Ac,Gx,Fz,fG,bB];exact .ret ⟨rfl,r5⟩
 | false=>
 simp only[Aa,Ac,Gx,dI,bF];rw[u.iA];refine ξ A hK u.M u.hb (d:=e) a_ z fun h6 T k6 t6 E=>?_
 have r6:Qt F h h6:=r5.trans ⟨⟨T,k6,fun i hi y=>t6 i hi (.inl y)⟩,E⟩;cases hasB X.S.ps X.S.g.D.toNat z with
 | true=>
  simp only[Aa,Ac,Fz,fG];exact .ret ⟨rfl,r6⟩
 | false=>
  simp only[Aa,Ac,Fz,dI];exact .ret ⟨rfl,r6⟩
def Co.dead(X:Co)(z:Int):Bool:=X.closed z&&decide (Zg X.S.g X.es z=0)
theorem EG(A:Bu disp)(hK:10000<K)(C:Cx h B X F)(hd:9<=d){z:Int}(o:Rng z):Ok (Ag TT disp K d false 64 [.ptr B.c 0,I z] h) fun v h'=>v=.bool (X.dead z)/\Qt F h h':=by
 obtain⟨e,rfl⟩:=d_ d;rw[τ A a_];simp only[EH,Aa];refine(xw A hK C (d:=e) a_ o).Am ?_;rintro _ h2 ⟨rfl,a⟩;have f:=(C.rd a).C;unfold Co.dead;have p:Eu (.tuple []) false=false/\Eu (.tuple []) true=false:=⟨rfl,rfl⟩;cases X.closed z with
 | false=>
  simp only[Aa,Ac,X4,bB];exact .ret ⟨rfl,a⟩
 | true=>
  simp only[Aa,Ac,bF];rw[f.jc,wI f.map];simp only[Aa,I,Ac,X4];exact .ret ⟨rfl,a⟩
theorem Sm.Uw(s:Sm g):3<=g.D*g.Z/\g.D*g.Z<=512:=by
 have:=s.d0;have:=s.d1;have:=s.z0;have:=s.z1;obtain⟨f,m1⟩:=Rl (a:=g.D) (b:=g.Z) (A:=8) (B:=64);have:g.D*1<=g.D*g.Z:=bU a_ a_;omega
theorem r7(A:Bu disp)(C:Cx h B X F)(a:∀h',Ext h h'->Ok (k (I (X.S.g.D*X.S.g.Z)) h') Q):Ok (Am (Cn K (.ptr B.m 0) h) fun v h=>Am (Ds K v h) k) Q:=by
 refine(Sw (K:=K) C.M C.hb).Am ?_;rintro _ h2 ⟨rfl,f⟩;rw[N8 C.sm,Au];exact a _ (f.Db _)
end
section
theorem υ:(Fw TT 215 0).2.1 = [8,9]:=by kernel_rfl
def inB(z:Int)(x:Me):Bool:=decide (x.state=1)&&(decide (x.Ai=z)||decide (x.Aw=z))
def ItS(N:Nat)(i:Nat):Prop:=N<=i/\i<N+4
structure nL(h:Ab)(N:Nat)(tm:Bb)(l0:Nat)(stop:Bool):Prop where
 y:h.get N=some (.cells [.Vz l0] 75)
 d:h.get (N+2)=some (.deferred true)
 l:h.get (N+3)=some (Ax TT 215 31 0 tm (if stop then .done else .ready) (if stop then some .ret else none) (N+2))
 lt:N+4<=h.next
structure r8(disp:Nat->Option FT)(K e l0 zq b ml ll:Nat)(g:Gm)(es:List Me)(z:Int)(N:Nat)(Inv:Nat->Ab->Prop)(Stop:Ab->Prop):Prop where
 frI:∀j h h',Inv j h->Av (ItS N) h h'->Inv j h'
 frS:∀h h',Stop h->Av (ItS N) h h'->Stop h'
 Dy:∀j (hj:j<es.length) h,inB z es[j]=true->Inv j h->N+4<=h.next->∃more h',Ag TT disp K e true l0 [I j] h=some (.bool more,h')/\Av (fun i=>¬ItS N i) h h'/\(if more=true then Inv (j+1) h' else Stop h')
 skp:∀j (hj:j<es.length) h,inB z es[j]=false->Inv j h->Inv (j+1) h
 hbI:∀j h,Inv j h->HB h
 hbS:∀h,Stop h->HB h
 map:∀j h,Inv j h->Oh h b ml ll g es
 zon:∀j h,Inv j h->h.get zq=some (.cells [I z] 3)
section
variable (H:Bu disp){ll:Nat}{es:List Me}{z:Int}{N:Nat}{Inv:Nat->Ab->Prop}(c:r8 disp K e l0 zq b ml ll g es z N Inv Stop)(t2:tmp tm 2=.ptr zq 0)(t3:tmp tm 3=.ptr N 0)(lz:zq<N)(he:2<=e)
include H c t2 t3 lz he
theorem φ(hj:j<es.length)(S0:nL h N tm l0 false)(I0:Inv j h):
 ∃more h',Ag TT disp K (e+1) true (N+3) [I j,.agg es[j].cells] h=some (.bool more,h')/\nL h' N tm l0 (!more)/\(if more=true then Inv (j+1) h' else Stop h'):=by
 have hg:=S0.l;simp only[aX,ak]at hg;have a:=hg;have hb:=c.hbI _ _ I0;have Dy:=c.Dy j hj;have skp:=c.skp j hj;generalize es[j]=x at Dy skp⊢;unfold Ax at a;rw[υ]at a;rw[χ H he tm h (I j) _ a,t2,t3];simp only[EI,Aa];rw[nG (h:=h.new (.cells [EV.int .i64 0,.int .i64 0,.int .i64 0,.int .i64 0,.int .i64 0,.int .i64 0] 38)) (i:=h.next) (o:=0) (n:=6) (v:=.agg x.cells) (l:=[EV.int .i64 0,.int .i64 0,.int .i64 0,.int .i64 0,.int .i64 0,.int .i64 0]) (l':=x.cells) (t:=38) (Ad _ _) rfl rfl rfl];obtain⟨h3,e_,u,e3,_⟩:=nP h (.cells [EV.int .i64 0,.int .i64 0,.int .i64 0,.int .i64 0,.int .i64 0,.int .i64 0] 38) (.cells x.cells 38);rw[e_];have ae:=u.hb hb;have q0:=u.at hb hg;have l3:=ae _ _ q0;rw[oT q0];have E:ItS N (N+3):=⟨a_,a_⟩;have c4:Av (ItS N) h (h3.put (N+3) (Ax TT 215 31 0 tm .busy none (N+2))):=(Ext.to (S:=ItS N) u).Ar (.inl E) l3 _;have r0:(h3.put (N+3) (Ax TT 215 31 0 tm .busy none (N+2))).get (N+3)=some (Ax TT 215 31 0 tm .busy none (N+2)):=Ae _ _ _;have J:(h3.put (N+3) (Ax TT 215 31 0 tm .busy none (N+2))).get N=some (.cells [.Vz l0] 75):=by rw[Af _];exact u.at hb S0.y
 have rd:(h3.put (N+3) (Ax TT 215 31 0 tm .busy none (N+2))).get (N+2)=some (.deferred true):=by rw[Af _];exact u.at hb S0.d
 have re:(h3.put (N+3) (Ax TT 215 31 0 tm .busy none (N+2))).get h.next=some (.cells x.cells 38):=by rw[Af _ (by have:=S0.lt;omega)];exact e3
 have O:=c.frI _ _ _ I0 c4;have U:h.next<=(h3.put (N+3) (Ax TT 215 31 0 tm .busy none (N+2))).next:=c4.next
 generalize h3.put (N+3) (Ax TT 215 31 0 tm .busy none (N+2))=h4 at c4 r0 J rd re O U⊢;have f:=c.hbI _ _ O;have rz:=c.zon _ _ O;have l4:=f _ _ r0;have af:=S0.lt;have ay:Eu (.tuple []) false=false/\Eu (.tuple []) true=false:=⟨rfl,rfl⟩;have no:inB z x=false->∃more h',Xo (N+3) true .ready none h4=some (.bool more,h')/\nL h' N tm l0 (!more)/\(if more=true then Inv (j+1) h' else Stop h'):=fun hn=>by
  rw[Si r0];refine⟨true,_,rfl,⟨by rw[Af _];exact J,by rw[Af _];exact rd,Ae _ _ _,by rw[Ab.Qv];omega⟩,?_⟩;rw[aI rfl];exact c.frI _ _ _ (skp h4 hn O) ((Av.refl (S:=ItS N) h4).Ar (.inl E) l4 _)
 have yes:inB z x=true->∃more h',Am (Ue (Ag TT disp K e false) (Ag TT disp K e true) (.Vz l0) [.int .i64 (j:Int)] h4) (fun ag h=>jt ag fun ah=>Jz (Ag TT disp K e false) (Ag TT disp K e true) K (N+3) (.bool true) ah h)=some (.bool more,h')/\nL h' N tm l0 (!more)/\(if more=true then Inv (j+1) h' else Stop h'):=fun hy=>by
  obtain⟨more,h5,e5,c5,i5⟩:=Dy h4 hy O (bQ af U);have hc:Ue (Ag TT disp K e false) (Ag TT disp K e true) (.Vz l0) [.int .i64 (j:Int)] h4=some (.bool more,h5):=e5;rw[hc,Au];have kp:∀k o,ItS N k->h4.get k=some o->h5.get k=some o:=fun k o hk g=>c5.at f g fun y=>y hk
  have p:=kp _ _ E r0;have V:=kp N _ ⟨a_,a_⟩ J;have W:=kp (N+2) _ ⟨a_,a_⟩ rd;have aj:=c5.hb f;have l5:=aj _ _ p;have a3:=c5.next
  cases more with
  | true=>
   simp only[Aa,Ac,Jz];rw[Si p];refine⟨true,_,rfl,⟨by rw[Af _];exact V,by rw[Af _];exact W,Ae _ _ _,by rw[Ab.Qv];omega⟩,?_⟩;rw[aI rfl]at i5⊢;exact c.frI _ _ _ i5 ((Av.refl (S:=ItS N) h5).Ar (.inl E) l5 _)
  | false=>
   simp only[Aa,Ac,Jz];rw[Si p];refine⟨false,_,rfl,⟨by rw[Af _];exact V,by rw[Af _];exact W,Ae _ _ _,by rw[Ab.Qv];omega⟩,?_⟩;rw[aG (by simp)]at i5⊢;exact c.frS _ _ i5 ((Av.refl (S:=ItS N) h5).Ar (.inl E) l5 _)
 simp only[EJ,Aa];rw[Aj re rfl (v:=I x.state) rfl];unfold inB at no yes;simp only[I,Ac];by_cases s1:x.state=1
 case neg=>
  simp only[s1,aA,Aa,Ac,P8,Mj,Mc,Jz];exact no (by rw[aL s1,bB])
 simp only[s1,aC,Aa,Ac];rw[Aj re rfl (v:=I x.Ai) rfl,Aj rz rfl (v:=I z) rfl];simp only[I,Ac];by_cases z1:x.Ai=z
 ·simp only[z1,aC,Aa,Ac,P8,Mj,Mc]
  rw[Aj J rfl (v:=.Vz l0) rfl];exact yes (by rw[aO s1,aO z1];rfl)
 simp only[z1,aA,Aa,Ac,P8];rw[Aj re rfl (v:=I x.Aw) rfl,Aj rz rfl (v:=I z) rfl];simp only[I,Ac];by_cases z2:x.Aw=z
 ·simp only[z2,aC,Aa,Ac,Mj,Mc]
  rw[Aj J rfl (v:=.Vz l0) rfl];exact yes (by rw[aO s1,aO z2,Bool.or_true];rfl)
 simp only[z2,aA,Aa,Ac,Mj,Mc,Jz];exact no (by rw[aL z1,aL z2,Bool.or_false,dV])
theorem ψ(O:es.length<=256):∀(m i:Nat) (h:Ab),es.length-i<m->i<=es.length->nL h N tm l0 false->Inv i h ->
 Ok (Cf (Ag TT disp K (e+1) false) (Ag TT disp K (e+1) true) K m (.Vz (N+3)) (.slice ml 0 es.length es.length false) (I es.length) (I i) h) fun _ h'=>∃stop,nL h' N tm l0 stop/\(if stop=true then Stop h' else Inv es.length h')/\HB h':=by
 intro m;induction m with
 | zero=>intro i h hm;omega
 | succ m p=>
  intro i h hm hi S0 f;have hb:=c.hbI _ _ f;have u:=(c.map _ _ f).row;rw[Cf];simp only[I,Ac,Aa];by_cases a:i<es.length
  ·have:decide ((i:Int)<(es.length:Int))=true:=by simp;omega
   simp only[this,Aa,Gd];rw[On a,bP,Cp u rfl (tR es a)]
   try simp only[Aa]
   have rd:=fun h S0 f=>φ (K:=K) H c t2 t3 lz he a (h:=h) S0 f
   generalize es[i]=x at rd⊢;refine Ok.mk rfl rfl fun h3 o e3 _=>?_
   rw[Cp e3 rfl (Ak (n:=6) rfl)];have S3:nL h3 N tm l0 false:=⟨o.at hb S0.y,o.at hb S0.d,o.at hb S0.l,bQ S0.lt o.next⟩;obtain⟨more,h4,E,S4,i4⟩:=rd h3 S3 (c.frI _ _ _ f (Ext.to o));have J:Ue (Ag TT disp K (e+1) false) (Ag TT disp K (e+1) true) (.Vz (N+3)) [.int .i64 (i:Int),.agg x.cells] h3=some (.bool more,h4):=E;rw[J,Au];cases more with
   | false=>
    simp only[Aa];rw[aG (by simp)]at i4;refine .ret ⟨true,S4,by rw[aI rfl];exact i4,?_⟩;exact c.hbS _ i4
   | true=>
    simp only[Aa,Gg,Ac];rw[aI rfl]at i4;rw[Ch,show((i:Nat):Int)+1=((i+1:Nat):Int) from a_];exact p (i+1) h4 a_ a_ S4 i4
  ·have:decide ((i:Int)<(es.length:Int))=false:=by simp;omega
   have:i=es.length:=a_
   subst this;simp only[Aa,aA,Int.lt_irrefl];exact .ret ⟨false,S0,by rw[aG (by simp)];exact f,hb⟩
end
theorem ω(H:Bu disp)(hK:1000<K){V ll:Nat}{es:List Me}{z:Int}{Inv:Nat->Ab->Prop}(c:r8 disp K e l0 zq b ml ll g es z h0.next Inv Stop)(he:2<=e)(s:Sm g)(gv:h0.get V=some (.cells [.ptr b 0] 40))(E:Inv 0 h0):
 Ok (Ag TT disp K (e+3) false 215 [.Vz l0,.ptr V 0,.ptr zq 0] h0) fun v h'=>v=.tuple []/\(Inv es.length h'\/Stop h'):=by
 have:=s.b0;have:=s.b1;have hb:=c.hbI _ _ E;have mp:=c.map _ _ E;have gz:=c.zon _ _ E;have hlen:=mp.len;have lz:=hb _ _ gz;have lm:=hb _ _ mp.row;rw[Α H a_];simp only[EK,dr];rw[Β rfl];obtain⟨h1,e_,J,y1,n1⟩:=nW h0 (.cells (EV.Vz l0).cells 75);rw[e_];have o:=J.hb hb;rw[Aj (J.at hb gv) rfl (v:=.ptr b 0) rfl];simp only[Xt,Aa,Fv];rw[Aj (J.at hb mp.map) rfl (v:=.slice ml 0 g.B.toNat g.B.toNat false) rfl,<-hlen];simp only[Aa];have O:Ext h1 (h1.new (.cells [.slice ml 0 es.length es.length false] 92)):=Av.new _ _;have q2:(h1.new (.cells [.slice ml 0 es.length es.length false] 92)).get h1.next=some (.cells [.slice ml 0 es.length es.length false] 92):=Ad _ _
 have n2:(h1.new (.cells [.slice ml 0 es.length es.length false] 92)).next=h0.next+2:=by rw[Ab.D4,n1]
 generalize h1.new (.cells [.slice ml 0 es.length es.length false] 92)=h2 at O q2 n2⊢;have p:=O.hb o;generalize a:(((((Tr.nil.put 0 (some (EV.Vz l0))).put 1 (some (EV.ptr V 0))).put 2 (some (EV.ptr zq 0))).put 3 (some (EV.ptr h0.next 0))).put 6 (some (EV.ptr b 0))).put 7 (some (EV.func 192 [] [EV.ptr h1.next 0]))=tm;have t2:tmp tm 2=.ptr zq 0:=by rw[<-a];simp only[Jg,reduceIte,Nat.reduceEqDiff]
 have t3:tmp tm 3=.ptr h0.next 0:=by rw[<-a];simp only[Jg,reduceIte,Nat.reduceEqDiff]
 clear a;refine Ok.range ?_;have u:Ext h2 (Cg TT 215 31 0 tm h2):=J2;have W:(Cg TT 215 31 0 tm h2).get h2.next=some (.deferred true):=L7
 have k1:(Cg TT 215 31 0 tm h2).get (h2.next+1)=some (Ax TT 215 31 0 tm .ready none h2.next):=Kj;have n3:(Cg TT 215 31 0 tm h2).next=h2.next+2:=rfl
 generalize Cg TT 215 31 0 tm h2=h3 at u W k1 n3⊢;have ao:=u.hb p;rw[n2]at W k1 n3⊢;have ab:Ext h0 h3:=(J.trans O).trans u;rw[J0 H (cS _)];simp only[G9,dr];rw[Aj (u.at p q2) rfl (v:=.slice ml 0 es.length es.length false) rfl];simp only[Aa];have S3:nL h3 h0.next tm l0 false:=⟨Ext.at (O.trans u) o y1,W,k1,a_⟩
 have I3:=c.frI _ _ _ E (Ext.to ab);refine(ψ (K:=K) H c t2 t3 lz he a_ K 0 h3 a_ a_ S3 I3).mono ?_;rintro _ h4 ⟨stop,S4,i4,f⟩;have lp:=S4.l;have U:=f _ _ lp;have au:=S4.lt;have sd:ItS h0.next (h0.next+2):=⟨a_,a_⟩
 have sl:ItS h0.next (h0.next+3):=⟨a_,a_⟩
 cases stop with
 | true=>
  simp only[bK]at lp i4;refine .inr ⟨lp,?_⟩;have d5:(h4.put (h0.next+2+1) (Ax TT 215 31 0 tm .exhausted (some .ret) (h0.next+2))).get (h0.next+2)=some (.deferred true):=by rw[Af _];exact S4.d
  refine Ok.unwind (cF.2 ⟨by simp,dR⟩) (fun d hd=>by rw[aP]at hd;subst hd;exact d5) (f.put U _) fun h6 ch _=>?_
  refine .ret ⟨rfl,.inr (c.frS _ _ i4 (((Av.refl (S:=ItS h0.next) h4).Ar (.inl sl) U _).trans (ch.mono fun i hi=>by rw[aP]at hi;subst hi;exact sd)))⟩
 | false=>
  simp only[aX,ak]at lp i4;refine .inl ⟨lp,?_⟩;have d5:(h4.put (h0.next+2+1) (Ax TT 215 31 0 tm .exhausted none (h0.next+2))).get (h0.next+2)=some (.deferred true):=by rw[Af _];exact S4.d
  refine Ok.unwind (cF.2 ⟨by simp,dR⟩) (fun d hd=>by rw[aP]at hd;subst hd;exact d5) (f.put U _) fun h6 ch _=>?_
  refine .ret ⟨rfl,.inl (c.frI _ _ _ i4 (((Av.refl (S:=ItS h0.next) h4).Ar (.inl sl) U _).trans (ch.mono fun i hi=>by rw[aP]at hi;subst hi;exact sd)))⟩
end
section
theorem Qt.jP(q:Qt F h0 h)(c:Av T h h')(t:∀i,T i->h0.next<=i):Qt F h0 h':=by
 obtain⟨⟨U,k,u⟩,hb⟩:=q;exact⟨⟨U,k.ug c t,u⟩,c.hb hb⟩
theorem Ok.qe(H:Bu disp)(hK:1000<K){a ll:Nat}{es:List Me}{z:Int}{Inv:Nat->Ab->Prop}{fn:Nat}{ds:List Nat}{k:Ab->List Nat->R}{ret:Ab->List Nat->R}
 (c:r8 disp K e (h.next+1) zq b ml ll g es z (h.next+2) Inv Stop) (he:2<=e) (s:Sm g) (f:h.get a=some (.cells [.ptr b 0] 40)) (hb:HB h) (o:Inv 0 (Cg TT fn n i tm h))
 (p:∀h',Inv es.length h'->h'.get (h.next+1)=some (Ax TT fn n i tm .ready none h.next)/\Ok (k (h'.put (h.next+1) (Ax TT fn n i tm .exhausted none h.next)) (h.next::ds)) Q)
 (u:∀h',Stop h'->h'.get (h.next+1)=some (Ax TT fn n i tm .done (some .ret) h.next)/\Ok (ret (h'.put (h.next+1) (Ax TT fn n i tm .exhausted (some .ret) h.next)) (h.next::ds)) Q) :
 Ok (Yq (Ag TT disp K (e+3) false) TT fn n i (.func 215 [] [.ptr a 0,.ptr zq 0]) tm h ds k ex ret) Q:=by
 refine Ok.range ((ω (K:=K) H hK (h0:=Cg TT fn n i tm h) c he s (J2.at hb f) o).mono ?_);rintro _ h' ⟨rfl,y|y⟩
 ·exact .inl (p h' y)
 ·exact .inr (u h' y)
def mL(S:Mi)(x:Me):Bool:=!S.E8 x.Ai&&!S.E8 x.Aw
def kE(S:Mi)(z:Int)(es:List Me):Bool:=es.all fun x=>!inB z x||mL S x
theorem EL {S:Mi}{z:Int}{es:List Me}(hj:j<es.length):kE S z (es.take (j+1))=(kE S z (es.take j)&&(!inB z es[j]||mL S es[j])):=by
 unfold kE;rw[fZ,List.all_append,aD hj];simp
theorem Γ {S:Mi}{z:Int}{es:List Me}(hj:j<es.length)(hi:inB z es[j]=true)(hg:mL S es[j]=false):kE S z es=false:=by
 unfold kE;rw[List.all_eq_false];exact⟨es[j],bI hj,by rw[hi,hg];simp⟩
structure mM(F:Nat->Prop)(h0 h:Ab)(l0:Nat)(tm:Bb)(B:Cb)(zq:Nat)(z:Int)(stop:Bool):Prop where
 q:Qt F h0 h
 lp:h.get l0=some (Ax TT 199 40 0 tm (if stop then .done else .ready) (if stop then some .ret else none) (l0-1))
 dd:h.get (l0-1)=some (.deferred true)
 c2:h.get h0.next=some (.cells [.ptr B.c 0] 26)
 c4:h.get (h0.next+1)=some (.cells [.bool false] 4)
 zq:h.get zq=some (.cells [I z] 3)
theorem mM.chg{z:Int}{stop:Bool}(w:mM F h0 h l0 tm B zq z stop)(c:Av T h h')(t:∀i,T i->l0<i)(l:h0.next+1<l0)(lz:zq<l0):mM F h0 h' l0 tm B zq z stop:=by
 have kp:∀i o,h.get i=some o->i<=l0->h'.get i=some o:=fun i o g hi=>c.at w.q.hb g fun y=>by have:=t i y;omega
 exact⟨w.q.jP c fun i hi=>by have:=t i hi;omega,kp _ _ w.lp (aE _),kp _ _ w.dd a_,kp _ _ w.c2 a_,kp _ _ w.c4 a_,kp _ _ w.zq a_⟩
theorem Δ:(Fw TT 199 0).2.1 = [14]:=by kernel_rfl
theorem Ε {es:List Me}(hj:j<es.length):U7 es (j:Int)=(es[j],0):=by
 unfold U7;rw[aI ⟨a_,a_⟩,bD,aD hj];rfl
theorem r9(s:Sm g){x:Me}(h:meR g x=true):Rng x.Ai/\Rng x.Aw:=by
 obtain⟨_,a,b,_⟩:=wY s h;exact⟨⟨a_,a_⟩,⟨a_,a_⟩⟩
section
variable (A:Bu disp)(hK:10000<K)(C:Cx h0 B X F)
include A C
theorem Ζ{z:Int}(t2:tmp tm 2=.ptr h0.next 0)(t4:tmp tm 4=.ptr (h0.next+1) 0)(l:h0.next+1<l0)(lz:zq<l0)(nz:h0.next+1<zq)(he:4<=e)(hj:j<X.es.length)(O:mM F h0 h l0 tm B zq z false):
 Ok (Ag TT disp K e true l0 [I j] h) fun v h'=>v=.bool (mL X.S X.es[j])/\Av (fun i=>i=l0\/i=h0.next+1) h h'/\mM F h0 h' l0 tm B zq z (!mL X.S X.es[j]):=by
 obtain⟨e,rfl⟩:=d_ e;have hg:=O.lp;simp only[aX,ak]at hg;have U:=hg;unfold Ax at U;rw[Δ]at U;rw[Η A a_ tm h (I j) U,t2,t4];have hb:=O.q.hb;have ab:=hb _ _ hg;simp only[EM,oT hg,Ys,dr];have n4:l0≠h0.next+1:=a_
 have c1:Av (fun i=>i=l0\/i=h0.next+1) h (h.put l0 (Ax TT 199 40 0 tm .busy none (l0-1))):=(Av.refl h).Ar (.inl (.inl rfl)) ab _;have g0:(h.put l0 (Ax TT 199 40 0 tm .busy none (l0-1))).get l0=some (Ax TT 199 40 0 tm .busy none (l0-1)):=Ae _ _ _;have kp:∀i o,h.get i=some o->i≠l0->(h.put l0 (Ax TT 199 40 0 tm .busy none (l0-1))).get i=some o:=fun i o g hi=>by rw[Af _ (cR hi)];exact g
 have gd:=kp _ _ O.dd a_;have V:=kp _ _ O.c2 a_;have g4:=kp _ _ O.c4 a_;have gz:=kp _ _ O.zq a_;have q1:Qt F h0 (h.put l0 (Ax TT 199 40 0 tm .busy none (l0-1))):=O.q.jP ((Av.refl (S:=fun i=>i=l0) h).Ar (.inl rfl) ab _) fun i hi=>a_
 clear kp;generalize h.put l0 (Ax TT 199 40 0 tm .busy none (l0-1))=h1 at c1 g0 gd V g4 gz q1⊢;have u:=(C.rd q1).C;rw[Aj V rfl (v:=.ptr B.c 0) rfl];simp only[Aa];rw[u.jc];refine(Oj (K:=K) C.sm u.map u.hb j).Am ?_;rintro _ h2 ⟨rfl,x2⟩;rw[Ε hj];have hx:=C.map.ok _ (bI hj);obtain⟨r1,r2⟩:=r9 C.sm hx;unfold mL;generalize X.es[j]=x at r1 r2⊢;simp only[Aa];have aq:=x2.hb u.hb;refine Ok.mk rfl rfl fun h3 x3 e3 _=>?_
 have W:=x2.trans x3;have a:=x3.hb aq;have ad:∀{i o},h1.get i=some o->h3.get i=some o:=fun g=>Ext.at W u.hb g
 have C3:=(u.Xe W).C;have l2:=a _ _ (ad V);have lc:=a _ _ C3.core;have le:=a _ _ e3;rw[Hl l2,Aj (ad V) rfl (v:=.ptr B.c 0) rfl];simp only[Aa,As];rw[Hl lc,C3.iA];simp only[Aa,As];rw[Hl le,Aj e3 rfl (v:=I x.Ai) rfl];simp only[Aa,As];refine Ok.bE (J4 (K:=K) (C3.M.same (iW.lift _)).s (C8 a) r1) (fun _ _ p=>p.2) ?_;rintro _ a8 h4 ⟨rfl,_⟩ _ x4;have ax:=x4.hb a;have E:=W.trans x4;have fin:∀(b:Bool) (J:Ab),Ext h1 J->Ok (Di (Ag TT disp K e false) (Ag TT disp K e true) K l0 h3.next ⟨0,[],[],[],[]⟩ (.ptr (h0.next+1) 0) (.bool (!b)) (.bool (!b)) J) fun v h'=>v=.bool b/\Av (fun i=>i=l0\/i=h0.next+1) h h'/\mM F h0 h' l0 tm B zq z (!b):=fun b J x5=>by
  have ae:=x5.hb u.hb;have f:∀{i o},h1.get i=some o->J.get i=some o:=fun g=>Ext.at x5 u.hb g
  have q5:=q1.trans (Qt.ext x5 u.hb);have l5:=ae _ _ (f g0);have af:=ae _ _ (f g4);have c5:=c1.trans (Ext.to x5);cases b with
  | true=>
   simp only[Di,fG,Aa,Ac];rw[Si (f g0)];exact .ret ⟨rfl,c5.Ar (.inl (.inl rfl)) l5 _,q5.jP ((Av.refl (S:=fun i=>i=l0) J).Ar (.inl rfl) l5 _) (fun i hi=>by omega),Ae _ _ _,by rw[Af _];exact f gd,by rw[Af _];exact f V,by rw[Af _];exact f g4,by rw[Af _];exact f gz⟩
  | false=>
   simp only[Di,dI,Aa,Ac];rw[nG (o:=0) (n:=1) (v:=.bool false) (l':=[.bool false]) (f g4) rfl rfl rfl,Si (by rw[Af _ (cR n4)];exact f g0)];exact .ret ⟨rfl,(c5.Ar (.inl (.inr rfl)) af _).Ar (.inl (.inl rfl)) l5 _,q5.jP (((Av.refl (S:=fun i=>h0.next<=i) J).Ar (.inl a_) af _).Ar (.inl a_) l5 _) (fun i hi=>hi),Ae _ _ _,
    by rw[Af _,Af _];exact f gd,by rw[Af _,Af _];exact f V,by rw[Af _];exact Ae _ _ _,by rw[Af _,Af _];exact f gz⟩
 cases X.S.E8 x.Ai with
 | true=>
  have:=fin false h4 E;simp only[Di,dI,Aa,Ac]at this;simp only[Aa,Ac,Di,fG,bB];exact this
 | false=>
 simp only[Aa,Ac,dI,bF];have ay:∀{i o},h1.get i=some o->h4.get i=some o:=fun g=>Ext.at E u.hb g
 have C4:=(u.Xe E).C;rw[Hl l2,Aj (ay V) rfl (v:=.ptr B.c 0) rfl];simp only[Aa,As];rw[Hl lc,C4.iA];simp only[Aa,As];rw[Hl le,Aj (x4.at a e3) rfl (v:=I x.Aw) rfl];simp only[Aa,As];refine Ok.bE (J4 (K:=K) (C4.M.same (iW.lift _)).s (C8 ax) r2) (fun _ _ p=>p.2) ?_;rintro _ a9 J ⟨rfl,_⟩ _ x5;have ag:=E.trans x5;cases X.S.E8 x.Aw with
 | true=>
  have:=fin false J ag;simp only[Di,dI,Aa,Ac]at this;simp only[Aa,Ac,Di,fG];exact this
 | false=>
  have:=fin true J ag;simp only[Di,fG,Aa,Ac]at this;simp only[Aa,Ac,Di,dI];exact this
include hK
theorem Θ(hd:8<=d)(z:Int):Ok (Ag TT disp K d false 199 [.ptr B.c 0,I z] h0) fun v h'=>v=.bool (kE X.S z X.es)/\Qt F h0 h':=by
 obtain⟨e,rfl⟩:∃k,d=k+3+1:=⟨d-4,a_⟩;rw[Ι A a_];simp only[EN,Aa];have hb:=C.hb;have U:Ext h0 ((h0.new (.cells [.ptr B.c 0] 26)).new (.cells [.bool false] 4)):=(Av.new _ _).Db _;have n1:((h0.new (.cells [.ptr B.c 0] 26)).new (.cells [.bool false] 4)).next=h0.next+2:=rfl
 have W:((h0.new (.cells [.ptr B.c 0] 26)).new (.cells [.bool false] 4)).get h0.next=some (.cells [.ptr B.c 0] 26):=by rw[Az _ (aN _)];exact Ad _ _
 have E:((h0.new (.cells [.ptr B.c 0] 26)).new (.cells [.bool false] 4)).get (h0.next+1)=some (.cells [.bool false] 4):=Ad _ _;rw[show(h0.new (.cells [.ptr B.c 0] 26)).next=h0.next+1 from rfl];generalize (h0.new (.cells [.ptr B.c 0] 26)).new (.cells [.bool false] 4)=h1 at U n1 W E⊢;have f:=U.hb hb;have C1:=(C.Xe U).C;rw[Aj W rfl (v:=.ptr B.c 0) rfl];simp only[Aa];rw[C1.jc];simp only[r_,Aa,I];have J:Ext h1 ((h1.new (.cells [.ptr B.b 0] 40)).new (.cells [.int .i64 z] 3)):=(Av.new _ _).Db _;have n2:((h1.new (.cells [.ptr B.b 0] 40)).new (.cells [.int .i64 z] 3)).next=h0.next+4:=by rw[Ab.D4,Ab.D4,n1]
 have gv:((h1.new (.cells [.ptr B.b 0] 40)).new (.cells [.int .i64 z] 3)).get (h0.next+2)=some (.cells [.ptr B.b 0] 40):=by rw[<-n1,Az _ (aN _)];exact Ad _ _
 have gz:((h1.new (.cells [.ptr B.b 0] 40)).new (.cells [.int .i64 z] 3)).get (h0.next+3)=some (.cells [I z] 3):=by rw[show h0.next+3=(h1.new (.cells [.ptr B.b 0] 40)).next by rw[Ab.D4,n1]];exact Ad _ _
 rw[show(h1.new (.cells [.ptr B.b 0] 40)).next=h0.next+3 by rw[Ab.D4,n1],n1];generalize (h1.new (.cells [.ptr B.b 0] 40)).new (.cells [.int .i64 z] 3)=h2 at J n2 gv gz⊢;have a:=J.hb f;have aa:Ext h0 h2:=U.trans J;generalize o:(((((((((Tr.nil.put 0 (some (EV.ptr B.c 0))).put 1 (some (EV.int .i64 z))).put 2 (some (EV.ptr h0.next 0))).put 4 (some (EV.ptr (h0.next+1) 0))).put 8 (some (EV.ptr B.c 0))).put 9 (some (EV.ptr B.c 0))).put 10 (some (EV.ptr B.c 2))).put 11 (some (EV.ptr B.b 0))).put 12 (some (EV.int .i64 z))).put 13 (some (EV.func 215 [] [EV.ptr (h0.next+2) 0,EV.ptr (h0.next+3) 0]))=tm;have t2:tmp tm 2=.ptr h0.next 0:=by rw[<-o];simp only[Jg,reduceIte,Nat.reduceEqDiff]
 have t4:tmp tm 4=.ptr (h0.next+1) 0:=by rw[<-o];simp only[Jg,reduceIte,Nat.reduceEqDiff]
 clear o;have nl:h2.next+1=h0.next+5:=a_
 have hlen:=C.map.len;have cl:r8 disp K e (h2.next+1) (h0.next+3) B.b B.ml B.ll X.S.g X.es z (h2.next+2) (fun j h=>mM F h0 h (h2.next+1) tm B (h0.next+3) z false/\kE X.S z (X.es.take j)=true) (fun h=>mM F h0 h (h2.next+1) tm B (h0.next+3) z true/\kE X.S z X.es=false):=by
  refine⟨fun j h h' w c=>⟨w.1.chg c (fun i hi=>by have:=hi.1;omega) a_ a_,w.2⟩,fun h h' w c=>⟨w.1.chg c (fun i hi=>by have:=hi.1;omega) a_ a_,w.2⟩,fun j hj h hi w _=>?_,fun j hj h hi w=>⟨w.1,?_⟩,fun j h w=>w.1.q.hb,fun h w=>w.1.q.hb,fun j h w=>(C.rd w.1.q).C.map,fun j h w=>w.1.zq⟩
  ·obtain⟨v,h',e1,rfl,c,w'⟩:=Ζ (K:=K) A C t2 t4 (l0:=h2.next+1) (zq:=h0.next+3) a_ a_ a_ (e:=e) a_ hj w.1
   refine⟨_,h',e1,c.mono fun i hi y=>?_,?_⟩
   ·have:=y.1;omega
   ·cases hg:mL X.S X.es[j]with
    | true=>
     rw[aI rfl];rw[hg]at w';exact⟨w',by rw[EL hj,w.2,hg];simp⟩
    | false=>
     rw[aG (by simp)];rw[hg]at w';exact⟨w',Γ hj hi hg⟩
  ·rw[EL hj,w.2,hi];rfl
 have V:Ext h2 (Cg TT 199 40 0 tm h2):=J2;have I0:mM F h0 (Cg TT 199 40 0 tm h2) (h2.next+1) tm B (h0.next+3) z false:=⟨Qt.ext (aa.trans V) hb,Kj,L7,V.at a (J.at f W),V.at a (J.at f E),V.at a gz⟩;refine Ok.qe (K:=K) A a_ cl a_ C.sm gv a ⟨I0,rfl⟩ (fun h3 w=>⟨w.1.lp,?_⟩) fun h3 w=>⟨w.1.lp,?_⟩
 ·have w2:=w.2
  rw[bY]at w2;rw[w2];have p:=w.1.q.hb;have l3:=p _ _ w.1.lp;have u:Qt F h0 (h3.put (h2.next+1) (Ax TT 199 40 0 tm .exhausted none h2.next)):=w.1.q.jP ((Av.refl (S:=fun i=>i=h2.next+1) h3).Ar (.inl rfl) l3 _) fun i hi=>a_
  have E:(h3.put (h2.next+1) (Ax TT 199 40 0 tm .exhausted none h2.next)).get (h0.next+1)=some (.cells [.bool false] 4):=by rw[Af _];exact w.1.c4
  have gd:(h3.put (h2.next+1) (Ax TT 199 40 0 tm .exhausted none h2.next)).get h2.next=some (.deferred true):=by rw[Af _];exact w.1.dd
  generalize h3.put (h2.next+1) (Ax TT 199 40 0 tm .exhausted none h2.next)=h4 at u E gd⊢;have l4:=u.hb _ _ E;simp only[Wk,dr];refine Ok.hM E rfl rfl (by show 0<1;decide) ?_;have q5:Qt F h0 (h4.put (h0.next+1) (.cells ([EV.bool false].set 0 (.bool true)) 4)):=u.jP ((Av.refl (S:=fun i=>i=h0.next+1) h4).Ar (.inl rfl) l4 _) fun i hi=>a_
  refine Ok.unwind (cF.2 ⟨by simp,dR⟩) (fun d hd=>by rw[aP]at hd;subst hd;rw[Af _];exact gd) q5.hb fun h6 O _=>?_
  have g6:h6.get (h0.next+1)=some (.cells [.bool true] 4):=Av.at O q5.hb (Ae _ _ _) (by rw[aP];omega);rw[rH g6];exact .ret ⟨rfl,q5.jP O fun i hi=>by rw[aP]at hi;omega⟩
 ·rw[w.2]
  have p:=w.1.q.hb;have l3:=p _ _ w.1.lp;have u:Qt F h0 (h3.put (h2.next+1) (Ax TT 199 40 0 tm .exhausted (some .ret) h2.next)):=w.1.q.jP ((Av.refl (S:=fun i=>i=h2.next+1) h3).Ar (.inl rfl) l3 _) fun i hi=>a_
  refine Ok.unwind (cF.2 ⟨by simp,dR⟩) (fun d hd=>by rw[aP]at hd;subst hd;rw[Af _];exact w.1.dd) u.hb fun h6 O _=>?_
  have g6:h6.get (h0.next+1)=some (.cells [.bool false] 4):=Av.at O u.hb (by rw[Af _];exact w.1.c4) (by rw[aP];omega);rw[rH g6];exact .ret ⟨rfl,u.jP O fun i hi=>by rw[aP]at hi;omega⟩
end
end
section
def iB(z:Int)(es:List Me)(j:Nat):List Nat:=(List.range j).filter fun i=>inB z ((es[i]?).getD (Me.nil 0))
theorem Κ {z:Int}{es:List Me}(hj:j<es.length)(h:inB z es[j]=true):iB z es (j+1)=iB z es j++[j]:=by
 unfold iB;rw[cr,fH,eh,aD hj];simp[h]
theorem Λ {z:Int}{es:List Me}(hj:j<es.length)(h:inB z es[j]=false):iB z es (j+1)=iB z es j:=by
 unfold iB;rw[cr,fH,eh,aD hj];simp[h]
theorem EO(z:Int)(es:List Me)(j:Nat):(iB z es j).length<=j:=by
 unfold iB;have:=fI (fun i=>inB z ((es[i]?).getD (Me.nil 0))) (List.range j);simpa using this
def nI(i:Nat):EV:=I (i:Int)
structure oU(F:Nat->Prop)(h0 h:Ab)(l0:Nat)(tm:Bb)(zq:Nat)(z:Int)(L:List Nat):Prop where
 q:Qt F h0 h
 lp:h.get l0=some (Ax TT 182 19 0 tm .ready none (l0-1))
 dd:h.get (l0-1)=some (.deferred true)
 zq:h.get zq=some (.cells [I z] 3)
 row:∃s qr,h.get h0.next=some (.cells [s] 24)/\Ce h s qr 3 1 L.length (L.map nI)/\(0<L.length->l0+5<=qr)
theorem oU.chg{z:Int}{L:List Nat}(w:oU F h0 h l0 tm zq z L)(c:Av T h h')(t:∀i,T i->l0<i/\i<l0+5)(l:h0.next<l0)(lz:zq<l0):oU F h0 h' l0 tm zq z L:=by
 have kp:∀i o,h.get i=some o->i<=l0->h'.get i=some o:=fun i o g hi=>c.at w.q.hb g fun y=>by have:=t i y;omega
 obtain⟨s,qr,p,a,f⟩:=w.row;exact⟨w.q.jP c fun i hi=>by have:=t i hi;omega,kp _ _ w.lp (aE _),kp _ _ w.dd a_,kp _ _ w.zq a_,s,qr,kp _ _ p a_,a.frame fun y=>c.get _ (w.q.hb _ _ (a.block y)) fun u=>by have:=t _ u;have:=f y;omega,f⟩
theorem Μ:(Fw TT 182 0).2.1 = [13]:=by kernel_rfl
section
variable (A:Bu disp)(hK:10000<K)
include A
theorem Ν{z:Int}(t5:tmp tm 5=.ptr h0.next 0)(l:h0.next+1<l0)(lz:zq<l0)(nz:h0.next<zq)(he:2<=e){L:List Nat}(hL:L.length<=256)(nx:l0+5<=h.next)(p:oU F h0 h l0 tm zq z L):
 Ok (Ag TT disp K e true l0 [I j] h) fun v h'=>v=.bool true/\Av (fun i=>¬(l0<i/\i<l0+5)) h h'/\oU F h0 h' l0 tm zq z (L++[j]):=by
 obtain⟨e,rfl⟩:=d_ e;have hg:=p.lp;have f:=hg;unfold Ax at f;rw[Μ]at f;rw[Ξ A a_ tm h (I j) f,t5];have hb:=p.q.hb;have W:=hb _ _ hg;simp only[EP,oT hg,Wn,dr];obtain⟨s,qr,r1,r2,V⟩:=p.row;have c1:Av (fun i=>i=l0) h (h.put l0 (Ax TT 182 19 0 tm .busy none (l0-1))):=(Av.refl (S:=fun i=>i=l0) h).Ar (.inl rfl) W _;have g0:(h.put l0 (Ax TT 182 19 0 tm .busy none (l0-1))).get l0=some (Ax TT 182 19 0 tm .busy none (l0-1)):=Ae _ _ _;have kp:∀i o,h.get i=some o->i≠l0->(h.put l0 (Ax TT 182 19 0 tm .busy none (l0-1))).get i=some o:=fun i o g hi=>by rw[Af _ (cR hi)];exact g
 have gd:=kp _ _ p.dd a_;have g5:=kp _ _ r1 a_;have gz:=kp _ _ p.zq a_;have rr:=r2.frame (h':=h.put l0 (Ax TT 182 19 0 tm .busy none (l0-1))) fun y=>Af _ (by have:=V y;omega)
 have ad:(h.put l0 (Ax TT 182 19 0 tm .busy none (l0-1))).next=h.next:=rfl
 have u:Qt F h0 (h.put l0 (Ax TT 182 19 0 tm .busy none (l0-1))):=p.q.jP c1 fun i hi=>a_
 clear kp;generalize h.put l0 (Ax TT 182 19 0 tm .busy none (l0-1))=h1 at c1 g0 gd g5 gz rr ad u⊢;rw[Aj g5 rfl (v:=s) rfl];refine Ml (z:=[.int .i64 0]) (v:=I j) rr u.hb rfl rfl rfl a_ a_ fun h2 E ai c2=>?_
 have J:=c2.hb u.hb;have O:∀i o,h1.get i=some o->i<=l0->h2.get i=some o:=fun i o g hi=>c2.at u.hb g fun y=>by have:=V y.1;omega
 have U:=O _ _ g5 a_;have l5:=J _ _ U;have ae:=J _ _ (O _ _ g0 (aE _));refine Ok.hM U rfl rfl (by show 0<1;decide) ?_;rw[Si (by rw[Af _];exact O _ _ g0 (aE _))];have c3:Av (fun i=>i=l0\/i=h0.next) h2 ((h2.put h0.next (.cells ([s].set 0 (.slice (h1.next+1) 0 (L.length+1) (L.length+1) true)) 24)).put l0 (Ax TT 182 19 0 tm .ready none (l0-1))):=((Av.refl h2).Ar (.inl (.inr rfl)) l5 _).Ar (.inl (.inl rfl)) ae _;have same:∀i,i≠l0->i≠h0.next->((h2.put h0.next (.cells ([s].set 0 (.slice (h1.next+1) 0 (L.length+1) (L.length+1) true)) 24)).put l0 (Ax TT 182 19 0 tm .ready none (l0-1))).get i=h2.get i:=fun i a b=>by rw[Af _ (cR a),Af _ (cR b)]
 refine .ret ⟨rfl,?_,?_,?_,?_,?_,?_⟩
 ·refine((c1.mono fun i hi y=>?_).trans (c2.mono fun i hi y=>?_)).trans (c3.mono fun i hi y=>?_)
  ·omega
  ·have:=V hi.1;omega
  ·omega
 ·refine(u.jP c2 fun i hi=>?_).jP c3 fun i hi=>a_
  have:=V hi.1;omega
 ·exact Ae _ _ _
 ·rw[same _ a_ a_];exact O _ _ gd a_
 ·rw[same _ a_ a_];exact O _ _ gz a_
 ·refine⟨.slice (h1.next+1) 0 (L.length+1) (L.length+1) true,h1.next+1,?_,?_,fun _=>a_⟩
  ·rw[Af _];exact Ae _ _ _
  ·rw[aF,cM]
   exact Ce.frame E fun _=>same _ a_ a_
include hK
theorem Ο(C:Cx h0 B X F)(hd:8<=d)(z:Int):Ok (Ag TT disp K d false 182 [.ptr B.c 0,I z] h0) fun v h'=>Qt F h0 h'/\∃qr,Ce h' v qr 3 1 (iB z X.es X.es.length).length ((iB z X.es X.es.length).map nI)/\(0<(iB z X.es X.es.length).length->h0.next<=qr):=by
 obtain⟨e,rfl⟩:∃k,d=k+3+1:=⟨d-4,a_⟩;rw[Ρ A a_];simp only[ER,Aa];have hb:=C.hb;obtain⟨h1,e_,J,p,n1⟩:=nW h0 (.cells [.Aq] 24);rw[e_];have f:=J.hb hb;have C1:=(C.Xe J).C;rw[C1.jc];simp only[r_,Aa,I];have u:Ext h1 ((h1.new (.cells [.ptr B.b 0] 40)).new (.cells [.int .i64 z] 3)):=(Av.new _ _).Db _;have n2:((h1.new (.cells [.ptr B.b 0] 40)).new (.cells [.int .i64 z] 3)).next=h0.next+3:=by rw[Ab.D4,Ab.D4,n1]
 have gv:((h1.new (.cells [.ptr B.b 0] 40)).new (.cells [.int .i64 z] 3)).get (h0.next+1)=some (.cells [.ptr B.b 0] 40):=by rw[<-n1,Az _ (aN _)];exact Ad _ _
 have gz:((h1.new (.cells [.ptr B.b 0] 40)).new (.cells [.int .i64 z] 3)).get (h0.next+2)=some (.cells [I z] 3):=by rw[show h0.next+2=(h1.new (.cells [.ptr B.b 0] 40)).next by rw[Ab.D4,n1]];exact Ad _ _
 rw[show(h1.new (.cells [.ptr B.b 0] 40)).next=h0.next+2 by rw[Ab.D4,n1],n1];generalize (h1.new (.cells [.ptr B.b 0] 40)).new (.cells [.int .i64 z] 3)=h2 at u n2 gv gz⊢;have a:=u.hb f;have O:Ext h0 h2:=J.trans u;generalize o:(((((((((Tr.nil.put 0 (some (EV.ptr B.c 0))).put 1 (some (EV.int .i64 z))).put 4 (some EV.Aq)).put 5 (some (EV.ptr h0.next 0))).put 7 (some (EV.ptr B.c 0))).put 8 (some (EV.ptr B.c 0))).put 9 (some (EV.ptr B.c 2))).put 10 (some (EV.ptr B.b 0))).put 11 (some (EV.int .i64 z))).put 12 (some (EV.func 215 [] [EV.ptr (h0.next+1) 0,EV.ptr (h0.next+2) 0]))=tm;have t5:tmp tm 5=.ptr h0.next 0:=by rw[<-o];simp only[Jg,reduceIte,Nat.reduceEqDiff]
 clear o;have nl:h2.next+1=h0.next+4:=a_
 have hlen:=C.map.len;have:=C.sm.b0;have:=C.sm.b1;have cl:r8 disp K e (h2.next+1) (h0.next+2) B.b B.ml B.ll X.S.g X.es z (h2.next+2) (fun j h=>oU F h0 h (h2.next+1) tm (h0.next+2) z (iB z X.es j)/\j<=X.es.length) (fun h=>False):=by
  refine⟨fun j h h' w c=>⟨w.1.chg c (fun i hi=>by have:=hi.1;have:=hi.2;omega) a_ a_,w.2⟩,fun h h' w c=>w.elim,fun j hj h hi w nx=>?_,fun j hj h hi w=>⟨by rw[Λ hj hi];exact w.1,hj⟩,fun j h w=>w.1.q.hb,fun h w=>w.elim,fun j h w=>(C.rd w.1.q).C.map,fun j h w=>w.1.zq⟩;have bl:=EO z X.es j;obtain⟨v,h',e1,rfl,c,w'⟩:=Ν (K:=K) A t5 (l0:=h2.next+1) (zq:=h0.next+2) a_ a_ a_ (e:=e) a_ (j:=j) a_ a_ w.1;refine⟨true,h',e1,c.mono fun i hi y=>hi ⟨by have:=y.1;omega,by have:=y.2;omega⟩,?_⟩;rw[aI rfl,Κ hj hi];exact⟨w',hj⟩
 have U:Ext h2 (Cg TT 182 19 0 tm h2):=J2;have I0:oU F h0 (Cg TT 182 19 0 tm h2) (h2.next+1) tm (h0.next+2) z (iB z X.es 0):=⟨Qt.ext (O.trans U) hb,Kj,L7,U.at a gz,.Aq,0,U.at a (u.at f p),Ce.nil _ _ _ _,fun y=>absurd y (bT 0)⟩;refine Ok.qe (K:=K) A a_ cl a_ C.sm gv a ⟨I0,cS _⟩ (fun h3 w=>⟨w.1.lp,?_⟩) fun h3 w=>w.elim
 obtain⟨w,_⟩:=w;obtain⟨s,qr,r1,r2,V⟩:=w.row;have W:=w.q.hb;have l3:=W _ _ w.lp;have E:Qt F h0 (h3.put (h2.next+1) (Ax TT 182 19 0 tm .exhausted none h2.next)):=w.q.jP ((Av.refl (S:=fun i=>i=h2.next+1) h3).Ar (.inl rfl) l3 _) fun i hi=>a_
 have p:(h3.put (h2.next+1) (Ax TT 182 19 0 tm .exhausted none h2.next)).get h0.next=some (.cells [s] 24):=by rw[Af _];exact r1
 have gd:(h3.put (h2.next+1) (Ax TT 182 19 0 tm .exhausted none h2.next)).get h2.next=some (.deferred true):=by rw[Af _];exact w.dd
 have rr:=r2.frame (h':=h3.put (h2.next+1) (Ax TT 182 19 0 tm .exhausted none h2.next)) fun y=>Af _ (by have:=V y;omega)
 generalize h3.put (h2.next+1) (Ax TT 182 19 0 tm .exhausted none h2.next)=h4 at E p gd rr⊢;simp only[Ul,dr];rw[Aj p rfl (v:=s) rfl];refine Ok.unwind (cF.2 ⟨by simp,dR⟩) (fun d hd=>by rw[aP]at hd;subst hd;exact gd) E.hb fun h6 ch _=>?_
 exact .ret ⟨E.jP ch fun i hi=>by rw[aP]at hi;omega,qr,rr.frame fun y=>ch.get _ (E.hb _ _ (rr.block y)) fun y'=>by rw[aP]at y';have:=V y;omega,fun y=>by have:=V y;omega⟩
end
end
section
def Co.live(X:Co)(z:Int):Int:=Zg X.S.g X.es z
def Co.jQ(X:Co)(z:Int):Bool:=X.closed z&&(decide (2*X.live z<=X.S.g.S)&&kE X.S z X.es)
def Co.Lh(X:Co):Nat->Int
 | 0=>-1
 | i+1=>if X.jQ i=true/\(X.Lh i = -1\/X.live i<X.live (X.Lh i))then i else X.Lh i
theorem Co.xy(X:Co):∀n,-1<=X.Lh n/\X.Lh n<n
 | 0=>by unfold Co.Lh;omega
 | n+1=>by
  have:=X.xy n;unfold Co.Lh;split<;>omega
theorem ES(a:X.es.length<=256)(z:Int):0<=X.live z/\X.live z<=256:=by
 unfold Co.live Zg;split
 ·have:=pW z X.es;omega
 ·omega
theorem Cx.ET(C:Cx h B X F):X.es.length<=256:=by
 have:=C.map.len;have:=C.sm.b1;have:=C.sm.b0;omega
theorem Τ(A:Bu disp)(hK:10000<K)(hn:X.S.g.D*X.S.g.Z=n)(hd:8<=d):∀(f i:Nat) (h:Ab),n-i<f->i<=n->Cx h B X F ->
 Ok (Ix (Ag TT disp K d false) (Ag TT disp K d true) K f (.ptr B.c 0) (I (X.Lh i)) (I n) (I i) h) fun v h'=>v=I (X.Lh n)/\Qt F h h':=by
 intro f;induction f with
 | zero=>intro i h hf;omega
 | succ f ih=>
  intro i h hf hi C;have bd:=C.sm.Uw;have W:=C.ET;rw[Ix];simp only[I,Ac];by_cases ae:i<n
  ·have:decide ((i:Int)<(n:Int))=true:=by simp;omega
   simp only[this,Aa,EU];rw[C.jc];have ml:=wI (K:=K) C.map i;simp only[I]at ml;rw[ml,Au];refine(xw A hK C hd (z:=i) ⟨a_,a_⟩).Am ?_;rintro _ h2 ⟨rfl,U⟩;have J:=(C.rd U).C;have nx:∀h' b,Qt F h h'->b=X.Lh (i+1)->Ok (Pa (Ag TT disp K d false) (Ag TT disp K d true) K (Ix (Ag TT disp K d false) (Ag TT disp K d true) K f) (.ptr B.c 0) (.int .i64 b) (.int .i64 (n:Int)) (.int .i64 (i:Int)) h') fun v h'=>v=I (X.Lh n)/\Qt F h h':=by
    intro h' b q hb;subst hb;simp only[Pa,Ac];rw[Ch,show((i:Nat):Int)+1=((i+1:Nat):Int) from a_];refine(ih (i+1) h' a_ a_ (C.rd q).C).mono ?_;rintro v h3 ⟨a,u⟩;exact⟨a,q.trans u⟩
   have no:X.jQ i=false->X.Lh i=X.Lh (i+1):=fun E=>by
    rw[show X.Lh (i+1)=if X.jQ i=true/\(X.Lh i = -1\/X.live i<X.live (X.Lh i))then(i:Int)else X.Lh i from rfl,aG (by rw[E];simp)]
   have lb:=ES W i;have vb:=X.xy i;have af:=ES W (X.Lh i);have ag:Eu (.tuple []) false=false/\Eu (.tuple []) true=false:=⟨rfl,rfl⟩;unfold Co.jQ at no;show Ok (jt (.bool (X.closed i)) _) _;cases E:X.closed i with
   | false=>
    simp only[Aa,Ac,O7,Lm];exact nx _ _ U (no (by rw[E,bB]))
   | true=>
   simp only[Aa,Ac];rw[J.iA];refine(Sw (K:=K) J.M J.hb).Am ?_;rintro _ h3 ⟨rfl,x3⟩;have u:=U.trans (Qt.ext x3 J.hb);have C3:=(C.rd u).C;unfold gV;rw[EW (v:=I X.S.g.S) rfl];simp only[I,Ac];have hL:Zg X.S.g X.es i=X.live i:=rfl;rw[hL,Ch];by_cases h2:X.S.g.S<2*X.live i
   ·simp only[h2,aC,Aa,Ac,O7,Lm]
    exact nx _ _ u (no (by rw[E,aL a_];rfl))
   simp only[h2,aA,Aa,Ac,O7];have wo:=Θ (K:=K) A hK C3 (d:=d) hd i;simp only[I]at wo;refine wo.Am ?_;rintro _ h4 ⟨rfl,p⟩;have p:=u.trans p;have C4:=(C.rd p).C;cases hw:kE X.S i X.es with
   | false=>
    simp only[Aa,Ac,Lm];exact nx _ _ p (no (by rw[hw,dV,dV]))
   | true=>
   simp only[Aa,Ac,Lm,EX];have o:X.jQ i=true:=by unfold Co.jQ;rw[E,hw,aO a_];rfl
   by_cases O:X.Lh i = -1
   ·simp only[O,aC,Aa,Ac,Uz]
    exact nx _ _ p (by rw[show X.Lh (i+1)=if X.jQ i=true/\(X.Lh i = -1\/X.live i<X.live (X.Lh i))then(i:Int)else X.Lh i from rfl,aI ⟨o,.inl O⟩])
   simp only[O,aA,Aa,Ac];rw[C4.jc];have ml:=wI (K:=K) C4.map (X.Lh i);simp only[I]at ml;rw[ml,Au];simp only[Ac,Uz];have V:Zg X.S.g X.es (X.Lh i)=X.live (X.Lh i):=rfl;rw[V];by_cases h3:X.live i<X.live (X.Lh i)
   ·simp only[h3,aC,Aa,Ac]
    exact nx _ _ p (by rw[show X.Lh (i+1)=if X.jQ i=true/\(X.Lh i = -1\/X.live i<X.live (X.Lh i))then(i:Int)else X.Lh i from rfl,aI ⟨o,.inr h3⟩])
   ·simp only[h3,aA,Aa,Ac]
    exact nx _ _ p (by rw[show X.Lh (i+1)=if X.jQ i=true/\(X.Lh i = -1\/X.live i<X.live (X.Lh i))then(i:Int)else X.Lh i from rfl,aG fun y=>y.2.elim O h3])
  ·have:decide ((i:Int)<(n:Int))=false:=by simp;omega
   have:i=n:=a_
   subst this;simp only[Int.lt_irrefl,aA,Aa,EY];exact .ret ⟨rfl,Qt.refl C.hb⟩
theorem Υ(A:Bu disp)(hK:10000<K)(C:Cx h B X F)(hd:9<=d):Ok (Ag TT disp K d false 175 [.ptr B.c 0] h) fun v h'=>v=I (X.Lh (X.S.g.D*X.S.g.Z).toNat)/\Qt F h h':=by
 obtain⟨e,rfl⟩:=d_ d;rw[Φ A a_];simp only[EZ,Aa];rw[C.iA];refine r7 A C fun h2 f=>?_
 have bd:=C.sm.Uw;obtain⟨n,o⟩:=av (show 0<=X.S.g.D*X.S.g.Z from a_);rw[o,bD];refine(Τ A hK o (d:=e) a_ K 0 h2 a_ a_ (C.Xe f).C).mono ?_;rintro v h3 ⟨a,p⟩;exact⟨a,(Qt.ext f C.hb).trans p⟩
end
theorem Cx.lift(C:Cx h B X F):Cx h.lift B X F:=
 ⟨C.M.same (iW.lift _),by rw[Bx];exact C.core,by rw[Bx];exact C.ar,C.map.frame (Bx _ _) (Bx _ _) (Bx _ _),C.wf,C.out,C8 C.hb⟩
section
def E_(x:R)(h:Ab)(B:Cb)(X:Co)(F:Nat->Prop):Prop:=Ok x fun v h'=>∃(e:Int) (Y:Co),v=I e/\E1 h h' B X F Y
theorem E_.ret{e:Int}(c:E1 h h' B X F Y):E_ (some (.int .i64 e,h')) h B X F:=Ok.ret ⟨e,Y,rfl,c⟩
theorem Χ(S:Mi)(z:Int):Mk S (S.iP z):=⟨rfl,Dk.refl _⟩
section
variable (A:Bu disp)(hK:10000<K)(C:Cx h B X F)
include A hK C
end
end
section
section
variable {h2 h3:Ab}
theorem E1.xz(x:Ext h h1)(c:E1 h1 h2 B X (Bm F h h1) Y)(t:Av T h2 h3)(f:∀i,T i->h.next<=i/\i<h1.next)(a:HB h3):E1 h h3 B X F Y:=
 ⟨(c.C.iI t (fun i hi _=>.inr (f i hi)) a).less fun _=>.inl,(x.oV c.k).then t fun i hi o=>by have:=f i hi;omega,c.ck⟩
end
section
variable (A:Bu disp)(hK:10000<K)
include A hK
end
end
section
theorem Cx.same(C:Cx h B X F)(sm:iW h h'):Cx h' B X F:=
 ⟨C.M.same sm,by rw[sm.get];exact C.core,by rw[sm.get];exact C.ar,C.map.frame (sm.get _) (sm.get _) (sm.get _),C.wf,C.out,sm.hb C.hb⟩
theorem FA(a b c d:Int)(f:bl.length=32):jF (Dn [(0,1),(1,1),(2,1),(3,1),(4,1),(5,1),(6,32)]) [(0,I a),(1,I b),(2,I c),(3,I d),(6,.agg (Be bl))] En.zero.cells=some (⟨a,b,c,d,0,0,bl⟩:En).cells:=by
 have hs:=sc [I a,I b,I c,I d,I 0,I 0] (Be Dt) (Be bl) (by rw[Bi,Bi,f,oW]);rw[<-U6]at hs;show Bc (Nat.beq (Gk (Be bl)) 32) (oB (fun z=>some z) (Nb ([I a,I b,I c,I d,I 0,I 0]++Be Dt) 6 (Be bl))) none=_;rw[Bg,Bi,f,cL,Al];rw[show(6:Nat) = [I a,I b,I c,I d,I 0,I 0].length from rfl,hs];rfl
section
variable (A:Bu disp)(hK:10000<K)(C:Cx h B X F)
include C
include A hK
end
end
section
theorem E1.less(c:E1 h h' B X G Y)(s:∀i,F i->G i):E1 h h' B X F Y:=⟨c.C.less s,c.k.less s,c.ck⟩
section
variable (A:Bu disp)(hK:10000<K)(C:Cx h B X F)
include A hK
include C
theorem Ψ {d:Int}:Rng (X.Lh (X.S.g.D*X.S.g.Z).toNat):=by
 have b:=X.xy (X.S.g.D*X.S.g.Z).toNat;have:=C.sm.Uw;exact⟨a_,a_⟩
end
end
section
theorem Da.uh{S:Mi}(M:Da h m S F)(c:Av T h h')(t:∀i,T i->i<h.next->F i):Da h' m S (Bm F h h'):=by
 refine⟨(M.s.frame c.next fun i hi=>c.get i hi.1 fun y=>hi.2 (t i y hi.1)).mono (fun i hi=>⟨aM hi.1 c.next,fun y=>?_⟩) fun i hi=>hi.1,Bm.lt M.lt c.next,M.wf⟩;rcases y with y|y
 ·exact hi.2 y
 ·have:=hi.1;omega
theorem Cx.uh(C:Cx h B X F)(c:Av T h h')(t:∀i,T i->i<h.next->F i)(a:HB h'):Cx h' B X (Bm F h h'):=by
 have f:=C.iI c t a;refine⟨(C.M.uh c fun i hi o=>.inl (t i hi o)).less fun i hi=>?_,f.core,f.ar,f.map,C.wf,fun i hi=>?_,a⟩
 ·rcases hi with(hi|hi)|hi
  ·exact .inl (.inl hi)
  ·exact .inr hi
  ·exact .inl (.inr hi)
 ·rcases hi with hi|hi
  ·exact C.out i hi
  ·intro y
   have p:=C.hb _ _ C.core;have u:=C.hb _ _ C.ar;have E:=C.hb _ _ C.map.map;have J:=C.hb _ _ C.map.row;have O:=C.hb _ _ C.map.live;rcases y with y|y|y|y|y<;>omega
structure Wr where
 block:Int
 bytes:List Nat
def Wr.Wf(w:Wr):Prop:=w.bytes.length=32/\∀b∈w.bytes,b<256
def Wr.cells(w:Wr):List EV:=I w.block::Be w.bytes
theorem Wr.len {w:Wr}(f:w.Wf):w.cells.length=33:=by unfold Wr.cells;rw[bJ,Bi,f.1]
structure j9(h:Ab)(v:EV)(b:Nat)(L:List Wr):Prop where
 row:(v=.Aq/\L = [])\/∃off r op,v=.slice b off L.length r op/\∀j (hj:j<L.length) (k:EV->R),Tt 33 (.ptr b (off+j*33)) h k=k (.agg L[j].cells)
 wf:∀w∈L,w.Wf
theorem j9.frame{L:List Wr}(r:j9 h v b L)(e:0<L.length->h'.get b=h.get b):j9 h' v b L:=by
 refine⟨?_,r.wf⟩;rcases r.row with y|⟨off,a,op,rfl,y⟩
 ·exact .inl y
 ·refine .inr ⟨off,a,op,rfl,fun j hj k=>?_⟩
  have:=y j hj k;show oB _ (mN (h'.get b) _ 33)=_;rw[e a_];exact this
theorem j9.Ip{L:List Wr}(r:j9 h v b L)(k:EV->R):Ev.Ip v k=k (I L.length):=by
 rcases r.row with⟨rfl,rfl⟩|⟨off,a,op,rfl,_⟩<;>rfl
theorem j9.at{L:List Wr}(r:j9 h v b L)(hj:j<L.length)(k:EV->R):iF 33 v (.int .i64 (j:Int)) (fun p=>Tt 33 p h k)=k (.agg L[j].cells):=by
 rcases r.row with⟨rfl,rfl⟩|⟨off,a,op,rfl,y⟩
 ·exact absurd hj (cC _)
 ·rw[On hj];exact y j hj k
theorem xA: [EV.int .i64 0]++List.replicate 32 (EV.int .u8 0)=(⟨0,Dt⟩:Wr).cells:=by kernel_rfl
theorem Ω(C:Cx h B X F)(j:Int):Ok (ui K (.ptr B.c 0) (I j) h) fun v h'=>v=.bool (decide (0<=j)&&decide (j<X.S.g.B))/\Ext h h':=by
 simp only[ui,I,Ac,Aa];have a:Eu (.tuple []) false=false/\Eu (.tuple []) true=false:=⟨rfl,rfl⟩;by_cases h0:0<=j
 ·simp only[h0,aC,Aa,Ac]
  rw[C.iA];refine Ok.Am (Sw (K:=K) C.M C.hb) ?_;rintro _ h2 ⟨rfl,f⟩;unfold gV;rw[EW (v:=I X.S.g.B) rfl];simp only[I,Ac,Aa,xB];exact .ret ⟨by simp,f⟩
 ·simp only[h0,aA,Aa,Ac,xB]
  exact .ret ⟨rfl,Av.refl _⟩
section
variable{L:List Wr}(fb:0<L.length->F b)(hL:L.length<=2000000)
include fb hL
end
structure FC(h:Ab)(s:EV)(q:Nat)(xs:List Me):Prop where
 row:Ce h s q 38 6 xs.length (xs.map Me.cells).flatten
 rng:∀x∈xs,Rng x.Ai/\Rng x.Aw
section
variable (A:Bu disp)(hK:10000<K){L:List Wr}(fb:0<L.length->F b)(hL:L.length<=4)
include A hK fb hL
end
end
variable {L:List Wr}
section
section
variable (A:Bu disp)(hK:10000<K)(C:Cx h B X F)
include A hK
include C
end
end
theorem A9x(hK:1000<K)(hb:HB h)(m:Nat):Ok (se K (.ptr m 0) h) fun v h'=>v=.ptr h.next 0/\h'.get h.next=some (.cells (arC m (fun _=>-1) fun _=>-1) 124)/\Ext h h'/\HB h':=by
 obtain⟨u,rfl⟩:∃k,K=k+4:=⟨K-4,a_⟩;simp only[se,dr];rw[Ay (l:=arC m (fun _=>0) fun _=>0) rfl];simp only[Aa];have E:Ext h (h.new (.cells (arC m (fun _=>0) fun _=>0) 124)):=Av.new _ _;have J:(h.new (.cells (arC m (fun _=>0) fun _=>0) 124)).get h.next=some (.cells (arC m (fun _=>0) fun _=>0) 124):=Ad _ _
 have l1:h.next<(h.new (.cells (arC m (fun _=>0) fun _=>0) 124)).next:=aN _
 generalize h.new (.cells (arC m (fun _=>0) fun _=>0) 124)=h1 at E J l1⊢;have st:∀(i:Nat) (h2:Ab) (c o:Nat->Int) (n:Nat),i<3->h2.get h.next=some (.cells (arC m c o) 124)->Ext h h2->h.next<h2.next->(∀h3,h3.get h.next=some (.cells (arC m (Mn c i (-1)) (Mn o i (-1))) 124)->Ext h h3->h.next<h3.next->Ok (St (u+4) n (.ptr h.next 0) (I (i+1:Nat)) h3) fun v h'=>v=.ptr h.next 0/\h'.get h.next=some (.cells (arC m (fun _=>-1) fun _=>-1) 124)/\Ext h h'/\HB h')->Ok (St (u+4) (n+1) (.ptr h.next 0) (I i) h2) fun v h'=>v=.ptr h.next 0/\h'.get h.next=some (.cells (arC m (fun _=>-1) fun _=>-1) 124)/\Ext h h'/\HB h':=by
  intro i h2 c o n hi f p a U;rw[St];simp only[I,Ac];have:decide ((i:Int)<3)=true:=by simp;omega
  simp only[this,Aa,FD];rw[Ay (l:=[I (-1),I (-1)]) rfl]
  try simp only[Aa]
  rw[Vs hi];refine Ok.st _ f rfl rfl (xk hi (-1) (-1)) ?_;simp only[FE,Ac];rw[Ch,show((i:Nat):Int)+1=((i+1:Nat):Int) from a_];exact U _ (Ae _ _ _) (p.Ar (.inr (aE _)) a _) a
 refine st 0 h1 _ _ _ a_ J E l1 fun h2 f p a=>st 1 h2 _ _ _ a_ f p a fun h3 V W l3=>st 2 h3 _ _ _ a_ V W l3 fun h4 g4 O l4=>?_
 rw[St];simp only[I,Ac];simp only[show decide (((2+1:Nat):Int)<3)=false from rfl,Aa,FF];exact .ret ⟨rfl,g4,O,O.hb hb⟩
theorem FG(z:List EV):∀n,rep z n=(List.replicate n z).flatten
 | 0=>rfl
 | n+1=>by rw[eQ,cK,<-FG z n];rfl
theorem Bqm(n:Nat):((List.replicate n (Me.nil 0)).map Me.cells).flatten=rep (List.replicate 6 (.int .i64 0)) n:=by
 rw[FG,fP];rfl
theorem FH(z:Int):∀n,Ka (List.replicate n (Me.nil 0)) z=0
 | 0=>rfl
 | n+1=>by
  rw[eQ,Qa,FH z n];unfold Wi;rw[aG (fun y=>by cases y.1)];rfl
theorem Bj5(n m:Nat):((List.range n).map fun(z:Nat)=>I (Ka (List.replicate m (Me.nil 0)) z))=rep [.int .i64 0] n:=by
 rw[xC];have:(fun(z:Nat)=>I (Ka (List.replicate m (Me.nil 0)) z))=fun _=>EV.int .i64 0:=by funext z;rw[FH]
 rw[this,FI]
theorem FJ(hr:rtB g=true)(hb:HB h):Ok (qi K (gV g) h) fun v h'=>∃b ml ll,v=.tuple [.ptr b 0,I 0]/\Oh h' b ml ll g (List.replicate g.B.toNat (Me.nil 0))/\Ext h h'/\HB h'/\h.next<=b/\h.next<=ml/\h.next<=ll:=by
 have s:=Jp hr;have:=s.b0;have:=s.b1;have:=s.d0;have:=s.d1;have:=s.z0;have:=s.z1;obtain⟨m0,m1⟩:=Rl (a:=g.D) (b:=g.Z) (A:=8) (B:=64);simp only[qi,gV,Aa];obtain⟨h1,e_,O,g1,n1⟩:=nW h (.cells (gL g) 23);rw[e_];have U:=O.hb hb;rw[Cz g1 rfl,Ak (n:=6) rfl]
 try simp only[Aa]
 rw[show EV.agg (gL g)=gV g from rfl];refine(uj (K:=K) g h1).Am ?_;rintro _ h2 ⟨rfl,E⟩;have f:=E.hb U;have g2:=E.at U g1;have l2:=f _ _ g2;simp only[hr,Aa,FK];rw[Hl l2,Cz g2 rfl,Ak (n:=6) rfl];simp only[Aa,As];rw[Hl l2,Aj g2 rfl (v:=I g.B) rfl];simp only[Aa,As];have hB:I g.B=I (g.B.toNat:Int):=by rw[gG a_]
 rw[hB,BL a_,Au];have J:Ext h2 (h2.new (.cells (rep (List.replicate 6 (.int .i64 0)) g.B.toNat) 38)):=Av.new _ _;have g3:(h2.new (.cells (rep (List.replicate 6 (.int .i64 0)) g.B.toNat) 38)).get h2.next=some (.cells (rep (List.replicate 6 (.int .i64 0)) g.B.toNat) 38):=Ad _ _
 have n3:(h2.new (.cells (rep (List.replicate 6 (.int .i64 0)) g.B.toNat) 38)).next=h2.next+1:=rfl
 have e3:([EV.int .i64 0,.int .i64 0,.int .i64 0,.int .i64 0,.int .i64 0,.int .i64 0]:List EV)=List.replicate 6 (.int .i64 0):=rfl;rw[e3];generalize h2.new (.cells (rep (List.replicate 6 (.int .i64 0)) g.B.toNat) 38)=h3 at J g3 n3⊢;have o:=J.hb f;have V:=J.at f g2;have l3:=o _ _ V;rw[Hl (show h.next<h2.next from l2),Cz V rfl,Ak (n:=6) rfl];simp only[Aa,As];rw[show EV.agg (gL g)=gV g from rfl];refine Ok.YG (P:=fun v h'=>v=I (g.D*g.Z)/\Ext (Ic 16 ⟨0,[(Nat.shiftLeft 1 3,h2.next)],[(Nat.shiftLeft 1 4,h.next),(Nat.shiftLeft 1 2,h.next),(Nat.shiftLeft 1 0,h.next)],[],[]⟩ h3) h') (by kernel_rfl) ?_ (fun _ _ p=>p.2) ?_
 ·rw[N8 s]
  exact .ret ⟨rfl,Av.new _ _⟩
 ·rintro _ aq h4 ⟨rfl,au⟩ eg en W
  have aa:=W.hb o;have ah:=W.at o g3;have hN:I (g.D*g.Z)=I ((g.D*g.Z).toNat:Int):=by rw[gG a_]
  try simp only[Aa,As]
  rw[hN,BL a_,Au];obtain⟨h5,e_,x5,g5,n5⟩:=nW h4 (.cells (rep [.int .i64 0] (g.D*g.Z).toNat) 3);rw[e_];have u:=x5.hb aa;rw[Ay (l:=gL g++[.slice h2.next 0 g.B.toNat g.B.toNat false,.slice h4.next 0 (g.D*g.Z).toNat (g.D*g.Z).toNat false]) rfl];simp only[Aa,As];have x6:Ext h5 (h5.new (.cells (gL g++[.slice h2.next 0 g.B.toNat g.B.toNat false,.slice h4.next 0 (g.D*g.Z).toNat (g.D*g.Z).toNat false]) 94)):=Av.new _ _;refine .ret ⟨h5.next,h2.next,h4.next,rfl,⟨Ad _ _,by rw[Bqm];exact x6.at u (x5.at aa ah),by rw[Bj5];exact x6.at u g5,by rw[bR],fun x hx=>by rw[bO hx];unfold meR;rw[aI (.inl rfl)];exact aO rfl⟩,((((O.trans E).trans J).trans W).trans x5).trans x6,x6.hb u,?_,?_,?_⟩
  ·have:=O.next;have:=E.next;have:=J.next;have:=W.next;have:=x5.next;omega
  ·have:=O.next;have:=E.next;omega
  ·have:=O.next;have:=E.next;have:=J.next;have:=W.next;omega
def Mi.oX(cur Bt:Nat->Int)(S:Mi)(z:Int):Mi:=if Vx cur Bt z=true then S else S.iP z
def Mi.jR(cur Bt:Nat->Int)(S:Mi):Nat->Mi
 | 0=>S
 | n+1=>(Mi.jR cur Bt S n).oX cur Bt n
theorem Bi5(cur Bt:Nat->Int)(S:Mi)(z:Int):(S.oX cur Bt z).bad=S.bad/\(S.oX cur Bt z).g=S.g/\(S.oX cur Bt z).dr=S.dr:=by
 unfold Mi.oX;split<;>exact⟨rfl,rfl,rfl⟩
theorem qj(cur Bt:Nat->Int)(S:Mi):∀n,(S.jR cur Bt n).bad=S.bad/\(S.jR cur Bt n).g=S.g/\(S.jR cur Bt n).dr=S.dr
 | 0=>⟨rfl,rfl,rfl⟩
 | n+1=>by
  obtain⟨a,b,c⟩:=Bi5 cur Bt (S.jR cur Bt n) n;obtain⟨d,e,f⟩:=qj cur Bt S n;exact⟨a.trans d,b.trans e,c.trans f⟩
def Fp(g:Gm):Nat->Int:=Mn (Mn (Mn (fun _=>-1) 0 0) 1 g.Z) 2 (2*g.Z)
def Ft(g:Gm):Nat->Int:=Mn (Mn (Mn (fun _=>-1) 0 1) 1 (g.Z+1)) 2 (2*g.Z+1)
def Co.start(g:Gm):Co:=⟨(Mi.new g).jR (Fp g) (Ft g) (g.D*g.Z).toNat,Fp g,Ft g,List.replicate g.B.toNat (Me.nil 0),0,1,1,false⟩
theorem xD(hr:rtB g=true):g.P+3<=g.Z:=by
 have s:=Jp hr;have h:2*g.B<=g.S*g.segments:=by
  unfold rtB at hr;simp only[aV,aS]at hr;exact hr.2.2
 have:=s.b0;have:=s.s0;have:=s.d0;have:=s.p0;have h1:1<=g.segments:=by
  rcases gh 0 g.segments with y|y
  ·omega
  ·have:g.S*g.segments<=g.S*0:=bU y a_
   omega
 by_cases a:g.P+3<=g.Z
 ·exact a
 ·exfalso
  unfold Gm.segments at h1;have u0:(g.D-1)*(g.Z-g.P-2)<=0:=Int.mul_nonpos_of_nonneg_of_nonpos a_ a_;have f:0<=g.D*g.P:=dX a_ a_;have h2:g.least<=(g.D-1)*(g.Z-g.P-2)-g.E7+1:=Int.min_le_left _ _;unfold Gm.E7 at h2;omega
theorem Sl(s:Sm g){k:Int}(hi:(i:Int)<g.D:=by omega)(a:0<=k:=by omega)(f:k<g.Z:=by omega):Bq g (i*g.Z+k)=i:=by
 have:=s.z0;have h1:(0:Int)<=i*g.Z:=dX a_ a_;have h2:(i:Int)*g.Z+g.Z<=g.D*g.Z:=by
  have:((i:Int)+1)*g.Z<=g.D*g.Z:=fL a_ a_;rw[Int.add_mul,Int.one_mul]at this;exact this
 unfold Bq;rw[aG a_,Int.add_comm,Int.add_mul_ediv_right _ _ a_,Int.ediv_eq_zero_of_lt a f,Int.zero_add]
theorem A80 {a:Nat}{z:Int}(h:Ab):sj K (.ptr m 0) (.ptr a 0) (.ptr b 0) (.agg [I x,I y,I z]) h=some (.ptr (h.next+1) 0,(h.new (.cells [I x,I y,I z] 81)).new (.cells [.ptr m 0,.ptr a 0,.ptr b 0,I x,I y,I z,.bool false] 91)):=by
 simp only[sj,Aa];rw[Cz (Ad _ _) rfl,Ak (n:=3) rfl]
 try simp only[Aa]
 rw[Ay (l:=[.ptr m 0,.ptr a 0,.ptr b 0,I x,I y,I z,.bool false]) rfl]
 try simp only[Aa]
 rfl
theorem Co.Bnp(hr:rtB g=true):(Co.start g).Wf:=by
 have s:=Jp hr;have f:=xD hr;have:=s.d0;have:=s.p0;have:=s.z0;have:=s.s0;obtain⟨_,e2,e3⟩:=qj (Fp g) (Ft g) (Mi.new g) (g.D*g.Z).toNat;have hg:(Co.start g).S.g=g:=e2;have d0:=Sl s (i:=0) (k:=0);have d1:=Sl s (i:=1) (k:=0);have d2:=Sl s (i:=2) (k:=0);have o0:=Sl s (i:=0) (k:=1);have o1:=Sl s (i:=1) (k:=1);have a:=Sl s (i:=2) (k:=1);refine⟨by rw[hg];exact hr,⟨fun i hi=>.inr ?_,fun i hi=>.inr ?_⟩,?_⟩
 ·rw[hg]
  rcases(show i=0\/i=1\/i=2 from a_)with rfl|rfl|rfl
  ·rw[<-d0];congr 1;show(0:Int)=_;omega
  ·rw[<-d1];congr 1;show g.Z=_;omega
  ·rw[<-d2];congr 1;show 2*g.Z=_;omega
 ·rw[hg]
  rcases(show i=0\/i=1\/i=2 from a_)with rfl|rfl|rfl
  ·rw[<-o0];congr 1;show(1:Int)=_;omega
  ·rw[<-o1];congr 1;show g.Z+1=_;omega
  ·rw[<-a];congr 1
 ·show 0<(Co.start g).S.dr.dv.size
  rw[show(Co.start g).S.dr=(Mi.new g).dr from e3];show 0<g.S.toNat;omega
def z8(b:Nat):EV:=.int .u8 (Int.ofNat b)
theorem Bd8{v2 v3:Nat}(a:v2≠v3):∀(m i:Nat) (h:Ab),32-i<m->i<=32->HB h->h.get v2=some (.cells (List.replicate 32 (z8 0)) 51)->h.get v3=some (.cells (List.replicate i (z8 b)++List.replicate (32-i) (z8 0)) 51) ->
 Ok (Vb K m (z8 b) (.ptr v2 0) (.ptr v3 0) (I i) h) fun v h'=>v=.agg (List.replicate 32 (z8 b))/\Av (fun j=>j=v2\/j=v3) h h'/\HB h':=by
 intro m;induction m with
 | zero=>intro i h hm;omega
 | succ m U=>
  intro i h hm hi hb f o;rw[Vb];simp only[I,Ac,Aa];by_cases p:i<32
  ·have:decide ((i:Int)<32)=true:=by simp;omega
   simp only[this,Aa,FL];rw[Vs p];simp only[Aa,bc];have J:=hb _ _ o;refine Ok.hM o rfl rfl (by simp;omega) ?_;simp only[FM,Ac];rw[Ch,show((i:Nat):Int)+1=((i+1:Nat):Int) from a_];have V:((List.replicate i (z8 b)++List.replicate (32-i) (z8 0)).set i (z8 b))=List.replicate (i+1) (z8 b)++List.replicate (32-(i+1)) (z8 0):=by
    rw[eC _ _ (by simp),bR,fU,show 32-i=(32-(i+1))+1 from a_,eQ,List.set_cons_zero,List.replicate_succ',bZ];rfl
   rw[V];refine(U (i+1) _ a_ a_ (hb.put J _) (by rw[Af _ (cR a)];exact f) (Ae _ _ _)).mono ?_;rintro v h' ⟨rfl,c,u⟩;exact⟨rfl,((Av.refl (S:=fun j=>j=v2\/j=v3) h).Ar (.inl (.inr rfl)) J _).trans c,u⟩
  ·have:decide ((i:Int)<32)=false:=by simp;omega
   have E:i=32:=a_
   subst E;simp only[this,Aa,FN];rw[Cz o rfl,Ak (n:=32) (by simp)];simp only[Aa];have O:=hb _ _ f;refine Ok.st (List.replicate 32 (z8 b)) f rfl rfl (Bo rfl) ?_;rw[Rg (Ae _ _ _) jH.1 jH.2 rfl];exact .ret ⟨rfl,(Av.refl (S:=fun j=>j=v2\/j=v3) h).Ar (.inl (.inl rfl)) O _,hb.put O _⟩
theorem Bm3(hK:100<K)(b:Nat)(hb:HB h):Ok (uk K (z8 b) h) fun v h'=>v=.agg (Be (List.replicate 32 b))/\Ext h h'/\HB h':=by
 simp only[uk,Aa];rw[show(h.new (.cells (List.replicate 32 (EV.int .u8 0)) 51)).next=h.next+1 from rfl];have f:Ext h ((h.new (.cells (List.replicate 32 (EV.int .u8 0)) 51)).new (.cells (List.replicate 32 (EV.int .u8 0)) 51)):=(Av.new _ _).Db _;have o:((h.new (.cells (List.replicate 32 (EV.int .u8 0)) 51)).new (.cells (List.replicate 32 (EV.int .u8 0)) 51)).get h.next=some (.cells (List.replicate 32 (z8 0)) 51):=by
  rw[Az _ (aN _)];exact Ad _ _
 have p:((h.new (.cells (List.replicate 32 (EV.int .u8 0)) 51)).new (.cells (List.replicate 32 (EV.int .u8 0)) 51)).get (h.next+1)=some (.cells (List.replicate 0 (z8 b)++List.replicate (32-0) (z8 0)) 51):=Ad _ _;refine(Bd8 (K:=K) (b:=b) (v2:=h.next) (v3:=h.next+1) a_ K 0 _ a_ a_ (f.hb hb) o p).mono ?_;rintro v h' ⟨rfl,c,a⟩;refine⟨?_,f.then c fun i hi u=>?_,a⟩
 ·unfold Be;rw[fP];rfl
 ·rcases hi with hi|hi<;>omega
theorem Evt.Bh {e:Evt}(w:e.Wf):e.cells.length=68:=by
 unfold Evt.cells;rw[aF,w.len];rfl
def wb(n:Int):Nat:=(n%256).toNat
theorem Bs3(n:Int):wb n<256:=by unfold wb;omega
theorem Bsq(a:Int)(f:bl.length=32):jF (Dn [(0,1),(1,32)]) [(0,I a),(1,.agg (Be bl))] ([EV.int .i64 0]++List.replicate 32 (.int .u8 0))=some (⟨a,bl⟩:Wr).cells:=by
 have hs:=sc [I a] (List.replicate 32 (EV.int .u8 0)) (Be bl) (by rw[Bi,f];simp);rw[<-U6]at hs;show Bc (Nat.beq (Gk (Be bl)) 32) (oB (fun z=>some z) (Nb ([I a]++List.replicate 32 (EV.int .u8 0)) 1 (Be bl))) none=_;rw[Bg,Bi,f,cL,Al];rw[show(1:Nat) = [I a].length from rfl,hs];rfl
end
end Go.Ev
