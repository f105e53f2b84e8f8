import Derived.Test.YtadnemjjlacolaaGreatVb
import Derived.Test.YtadnemjjlacolaaGreatDc
set_option linter.all false
namespace Go.Ev
open Go.Proofs
set_option maxRecDepth 100000
variable {h h' h0:Ab}{K P b d e i j n t b2 ml:Nat}{g:Gm}{xs:List EV}{kk:Ab->R}{Q:EV->Ab->Prop}{x:Me}{y:EV}{S T:Nat->Prop}{v:Int}{tm:Ax}{disp:Nat->Option FT}
instance:DecidableEq Me:=fun a b=>by
 cases a;cases b;simp only[Me.mk.injEq];exact inferInstance
def Me.nil(s:Int):Me:=⟨s,0,0,0,0,0⟩
def meR(g:Gm)(x:Me):Bool:=if x.state=0\/x.state=2 then decide (x=Me.nil x.state)else if x.state=1 then meB g x else false
def Aas(z:Int)(x:Me):Int:=if x.state=1/\(x.Aj=z\/x.Ba=z)then 1 else 0
def La(es:List Me)(z:Int):Int:=(es.map (Aas z)).foldr (· + ·) 0
theorem Tp(x:Me)(es:List Me)(z:Int):La (x::es) z=Aas z x+La es z:=rfl
theorem Baq(z:Int)(x:Me):0<=Aas z x/\Aas z x<=1:=by unfold Aas;split<;>omega
theorem Akx(z:Int):∀es:List Me,0<=La es z/\La es z<=es.length
 | []=>⟨cb _,cb _⟩
 | x::es=>by
  have:=Akx z es;have:=Baq z x;rw[Tp,bH];omega
theorem A8d(z:Int)(y:Me):∀(es:List Me) (j:Nat) (hj:j<es.length),La (es.set j y) z=La es z-Aas z es[j]+Aas z y
 | x::es,0,_=>by
  rw[List.set_cons_zero,Tp,Tp];show Aas z y+La es z=Aas z x+La es z-Aas z x+Aas z y;omega
 | x::es,j+1,hj=>by
  have a:j<es.length:=by simpa using hj
  rw[List.set_cons_succ,Tp,Tp,A8d z y es j a];show _=Aas z x+La es z-Aas z es[j]+Aas z y;omega
structure W8(h:Ab)(b ml ll:Nat)(g:Gm)(es:List Me):Prop where
 map:h.get b=some (.cells (gL g++[.slice ml 0 g.B.toNat g.B.toNat false,.slice ll 0 (g.D*g.Z).toNat (g.D*g.Z).toNat false]) 115)
 row:h.get ml=some (.cells (es.map Me.cells).flatten 47)
 live:h.get ll=some (.cells ((List.range (g.D*g.Z).toNat).map fun(z:Nat)=>I (La es z)) 3)
 len:es.length=g.B.toNat
 ok:∀x∈es,meR g x=true
theorem W8.frame{ll:Nat}{es:List Me}(m:W8 h b ml ll g es)(e1:h'.get b=h.get b)(e2:h'.get ml=h.get ml)(e3:h'.get ll=h.get ll):W8 h' b ml ll g es:=⟨by rw[e1];exact m.map,by rw[e2];exact m.row,by rw[e3];exact m.live,m.len,m.ok⟩
theorem W8.ext{ll:Nat}{es:List Me}(m:W8 h b ml ll g es)(e:∀i o,h.get i=some o->h'.get i=some o):W8 h' b ml ll g es:=⟨e _ _ m.map,e _ _ m.row,e _ _ m.live,m.len,m.ok⟩
theorem Bkv:∀(l:List (List EV)) (j:Nat) (x:List EV),(∀x∈l,x.length=n)->l[j]? = some x->Oy l.flatten (j*n) n=some x:=by
 have len:∀l:List (List EV),(∀x∈l,x.length=n)->l.flatten.length=l.length*n:=fun l=>by
  induction l with
  | nil=>intro _;simp
  | cons a r k=>intro h;rw[cC,aH,h a (aX ..),k fun x f=>h x (aT _ f),bH,fL];omega
 intro l j x m f;have hj:=(aW.1 f).1;rw[Fw (by rw[len l m];have:=Nat.mul_le_mul_right n (show j+1<=l.length from hj);rw[fL]at this;exact this)];congr 1;induction l generalizing j with
 | nil=>cases f
 | cons a r k=>
  have o:=m a (aX ..);cases j with
  | zero=>
   rw[bL]at f;cases f;rw[gA,dC,cC,<-o,fF]
  | succ j=>
   rw[bm]at f;rw[cC,fL,show j*n+n=a.length+j*n by omega,<-dh,gH];exact k j (fun x f=>m x (aT _ f)) f (aW.1 f).1
theorem Avh(es:List Me)(hj:j<es.length):Oy (es.map Me.cells).flatten (j*6) 6=some es[j].cells:=
 Bkv (n:=6) (es.map Me.cells) j es[j].cells (fun y a=>by obtain⟨z,_,rfl⟩:=bc.1 a;rfl) (by rw[bG,aC hj];rfl)
def Atk(es:List Me)(j:Int):Me × Int:=if 0<=j/\j<es.length then((es[j.toNat]?).getD (Me.nil 0),0)else(Me.nil 0,13)
theorem Ok.stA{z:List EV}(f:h.get i=some (.cells z t))(k:z.length=n)(a:xs.length=n)(m:Ok (kk (h.put i (.cells xs t))) Q):Ok (stE n (.ptr i 0) (.agg xs) h kk) Q:=
 Ok.st xs f rfl (by show Gk xs=n;rw[Bc,a]) (Bm (by show z.length=xs.length;rw[a,k])) m
theorem Qh{ll:Nat}{es:List Me}(s:Sm g)(m:W8 h b ml ll g es)(hb:HB h)(j:Int):Ok (Gp K (.ptr b 0) (I j) h) fun v h'=>v=.tuple [.agg (Atk es j).1.cells,I (Atk es j).2]/\Ext h h':=by
 have:=s.b0;have:=s.b1;simp only[Gp,I,Aa,Ac];rw[show[EV.int .i64 0,.int .i64 0,.int .i64 0,.int .i64 0,.int .i64 0,.int .i64 0]=(Me.nil 0).cells from rfl];obtain⟨A,C,a,g4,_⟩:=nW h (.cells (Me.nil 0).cells 47);rw[C];have f:=a.hb hb;have p:=a.at hb m.map;have D:=a.at hb m.row;have E:=f _ _ g4;have st:∀(x:Me) (e:Int),Ok (stE 6 (.ptr h.next 0) (.agg x.cells) A fun o=>Ji TT [.c (.ptr h.next 0) 47,.v (.int .i64 e)] o) fun v h'=>v=.tuple [.agg x.cells,I e]/\Ext h h':=by
  intro x e;refine Ok.stA g4 rfl rfl ?_;rw[Gg (Af _ _ _) A6f.1 A6f.2 rfl];exact .ret ⟨rfl,a.Ar (.inr (aE _)) E _⟩
 unfold Atk;by_cases q:j<0
 ·have F:Cg (.tuple []) false=false/\Cg (.tuple []) true=false:=⟨rfl,rfl⟩
  simp only[q,aB,Aa,Ac,Aha];rw[Ay (l:=(Me.nil 0).cells) rfl,aF (by omega)];exact st _ 13
 simp only[q,aA,Aa,Ac];rw[Al p rfl (v:=.slice ml 0 g.B.toNat g.B.toNat false) rfl];rw[show ∀k:EV->R,F3 (.slice ml 0 g.B.toNat g.B.toNat false) k=k (I g.B.toNat)from fun _=>rfl];simp only[I,Ac,Aa,Aha];have hlen:=m.len;by_cases G:j<g.B
 ·obtain⟨n,rfl⟩:=aY (show 0<=j by omega)
  have u:n<es.length:=by omega
  have:decide ((n:Int)≥(g.B.toNat:Int))=false:=by simp;omega
  simp only[this,Aa,Aq8];rw[Al p rfl (v:=.slice ml 0 g.B.toNat g.B.toNat false) rfl,Lv (by omega),bJ,Bp D rfl (Avh es u),aG (by omega)];rw[show(es[(n:Int).toNat]?).getD (Me.nil 0)=es[n] by rw[aZ,aC u];rfl];exact st _ 0
 ·have:decide ((j:Int)≥(g.B.toNat:Int))=true:=by simp;omega
  simp only[this,Aa];rw[Ay (l:=(Me.nil 0).cells) rfl,aF (by omega)];exact st _ 13
def Ug(g:Gm)(es:List Me)(z:Int):Int:=if 0<=z/\z<g.D*g.Z then La es z else 0
theorem A4o(n:Nat)(f:Int->Int)(hj:j<n):((List.range n).map fun(z:Nat)=>I (f z))[j]? = some (I (f j)):=by
 rw[bG,cM hj];rfl
theorem Abo{ll:Nat}{es:List Me}(m:W8 h b ml ll g es)(z:Int):H5 K (.ptr b 0) (I z) h=some (I (Ug g es z),h):=by
 simp only[H5,I,Aa,Ac];unfold Ug;by_cases a:z<0
 ·simp only[a,aB,Aa,Ac,Aem]
  rw[aF (by omega)]
 simp only[a,aA,Aa,Ac];rw[Al m.map rfl (v:=.slice ll 0 (g.D*g.Z).toNat (g.D*g.Z).toNat false) rfl];rw[show ∀k:EV->R,F3 (.slice ll 0 (g.D*g.Z).toNat (g.D*g.Z).toNat false) k=k (I (g.D*g.Z).toNat)from fun _=>rfl];simp only[I,Ac,Aa,Aem];by_cases f:z<g.D*g.Z
 ·obtain⟨n,rfl⟩:=aY (show 0<=z by omega)
  have:decide ((n:Int)≥((g.D*g.Z).toNat:Int))=false:=by simp;omega
  simp only[this,Aa,Aow];rw[Al m.map rfl (v:=.slice ll 0 (g.D*g.Z).toNat (g.D*g.Z).toNat false) rfl,Lv (by omega),bJ,bZ,Al m.live rfl (A4o (g.D*g.Z).toNat (La es) (j:=n) (by omega)),aG (by omega)]
 ·have:decide ((z:Int)≥((g.D*g.Z).toNat:Int))=true:=by simp;omega
  simp only[this,Aa];rw[aF (by omega)]
theorem A5a:∀(l l':List Int),l.length=l'.length->F1 (l.map I) (l'.map I)=some (decide (l=l'))
 | [],[],_=>rfl
 | a::l,b::l',h=>by
  have k:=A5a l l' (by simpa using h);rw[dQ,dQ];unfold F1;rw[Aze];by_cases f:a=b
  ·subst f
   rw[aM rfl];simp only[k,List.cons.injEq,gO]
  ·rw[aP f]
   simp only[k];rw[aP fun y=>f (List.cons.inj y).1]
def Me.row(x:Me):List Int:=[x.state,x.Aj,x.Ba,x.off,x.seq,x.sum]
theorem Me.Bjc {y:Me}:x.row=y.row↔x=y:=by
 cases x;cases y;simp[Me.row]
theorem Btq(x y:Me)(k:EV->R):Kl An2 (bin TT .eql 47) (.agg x.cells) (.agg y.cells) k=k (.bool (decide (x=y))):=by
 have he:TT.eqs 47=some [0,0,0,0,0,0]:=by kernel_rfl
 have a:Axy TT 47 (.agg x.cells) (.agg y.cells)=some (decide (x=y)):=by
  show(match TT.eqs 47 with|some sh=>Bf (shaped sh x.cells) (F1 x.cells y.cells) none|none=>none)=_;rw[he];simp only;rw[show shaped [0,0,0,0,0,0] x.cells=true from rfl,Ak,show x.cells=x.row.map I from rfl,show y.cells=y.row.map I from rfl,A5a x.row y.row rfl];congr 1;rw[eD];exact Me.Bjc
 show oB k (match Axy TT 47 (.agg x.cells) (.agg y.cells)with|some b=>some (EV.bool b)|none=>none)=_;rw[a];rfl
theorem Bc1(hb:HB h)(k:x.state=1->Rng x.Aj/\Rng x.Ba):Ok (Kz K (.agg x.cells) (gV g) h) fun v h'=>v=.bool (meR g x)/\Ext h h':=by
 unfold meR;by_cases s1:x.state=1
 ·rw[aF (by omega),aG s1]
  exact Av6 hb s1 (k s1).1 (k s1).2
 ·simp only[Kz,gV,Aa]
  have f:Ext h ((h.new (.cells x.cells 47)).new (.cells (gL g) 23)):=(Av.new _ _).Ds _;have a:((h.new (.cells x.cells 47)).new (.cells (gL g) 23)).get h.next=some (.cells x.cells 47):=by
   rw[Az _ (aL _)];exact Ad _ _
  generalize (h.new (.cells x.cells 47)).new (.cells (gL g) 23)=m at f a⊢;rw[Al a rfl (v:=I x.state) rfl];simp only[I,Ac];have eq:∀s,x.state=s->Ok (My K (.ptr h.next 0) (.ptr (h.next+1) 0) (.int .i64 s) (.bool true) m) fun v h'=>v=.bool (decide (x=Me.nil x.state))/\Ext h h':=fun s hs=>by
   simp only[My,Aa];rw[Db a rfl,Ai (n:=6) rfl]
   try simp only[Aa]
   rw[Al a rfl (v:=I x.state) rfl]
   try simp only[Aa]
   rw[Ay (l:=(Me.nil x.state).cells) rfl,Btq];exact .ret ⟨rfl,f⟩
  by_cases h0:x.state=0
  ·rw[aG (.inl h0)]
   simp only[h0,aB,Aa];have:=eq 0 h0;rw[h0]at this;exact this
  ·by_cases h2:x.state=2
   ·rw[aG (.inr h2)]
    simp only[h2,show ¬((2:Int)=0) by decide,aA,aB,Aa];have:=eq 2 h2;rw[h2]at this;exact this
   ·rw[aF (by omega),aF s1]
    simp only[h0,s1,h2,aA,Aa,My,Ac,Ah1];exact .ret ⟨rfl,f⟩
theorem Bk8 {α:Type}(f:Nat->α)(n j:Nat)(v:α):((List.range n).map f).set j v=(List.range n).map fun z=>if z=j then v else f z:=by
 apply dY;intro i;rw[dD,bG,bG];by_cases a:i<n
 ·rw[cM a]
  by_cases hj:j=i
  ·subst hj;simp[a]
  ·simp[hj,cV hj]
 ·rw[cA (by simpa using a)]
  simp only[bX,eX];split
  ·rw[aF (by omega)];rfl
  ·rfl
theorem Bol(h:meR g x=true)(f:x.state=1):(0<=x.Aj/\x.Aj<g.D*g.Z)/\(0<=x.Ba/\x.Ba<g.D*g.Z)/\¬x.Aj=x.Ba:=by
 unfold meR at h;rw[aF (by omega),aG f]at h;unfold meB Xo at h;simp only[aR,Fl,aQ]at h;obtain⟨⟨_,⟨a,b⟩,_⟩,⟨_,⟨c,d⟩,_⟩,e,_⟩:=h;exact⟨⟨a,by omega⟩,⟨c,by omega⟩,fun y=>e (by rw[y])⟩
def Bmg(f:Int->Int)(z v:Int):Int->Int:=fun y=>if y=z then v else f y
theorem Bh5(n:Nat)(f:Int->Int)(j:Nat)(v:Int):((List.range n).map fun(z:Nat)=>I (f z)).set j (I v)=(List.range n).map fun(z:Nat)=>I (Bmg f j v z):=by
 rw[Bk8];congr 1;funext z;unfold Bmg;by_cases h:z=j
 ·rw[aG h,aG (by omega)]
 ·rw[aF h,aF (by omega)]
theorem Bc0{ll:Nat}(hn:g.D*g.Z=n)(U:n<=512)(hm:h.get b=some (.cells (gL g++[.slice ml 0 g.B.toNat g.B.toNat false,.slice ll 0 n n false]) 115)){f:Int->Int}(M:h.get ll=some (.cells ((List.range n).map fun(z:Nat)=>I (f z)) 3))(hb:HB h)(V:meR g x=true){by':Int}(W:by'=1\/by' = -1)(bd:∀z,-1000<=f z/\f z<=1000):
 Ok (X7 K (.ptr b 0) (.agg x.cells) (I by') h) fun v h'=>v=.tuple []/\h'.get ll=some (.cells ((List.range n).map fun(z:Nat)=>I (f z+by'*Aas z x)) 3)/\Av (fun i=>i=ll) h h'/\HB h':=by
 simp only[X7,Aa];obtain⟨C,X,E,g4,_⟩:=nW h (.cells x.cells 47);rw[X];have m:=E.hb hb;have J:=E.at hb hm;have F:=E.at hb M;rw[Al g4 rfl (v:=I x.state) rfl];simp only[I,Ac];by_cases s1:x.state=1
 ·obtain⟨⟨Y,a1⟩,⟨c0,c1⟩,ne⟩:=Bol V s1
  obtain⟨j,hj⟩:=aY Y;obtain⟨k,O⟩:=aY c0;have lb:=m _ _ J;have L:=m _ _ g4;have o:=m _ _ F;have B1:=bd j;have B2:=bd k;simp only[s1,aB,Aa,Aw];rw[Ku lb,Al J rfl (v:=.slice ll 0 n n false) rfl]
  try simp only[Aa,Aw]
  rw[Ku L,Al g4 rfl (v:=I x.Aj) rfl,hj]
  try simp only[I,Aa,Aw]
  rw[Lv (by omega),bJ,bZ,Ku o,Al F rfl (A4o n f (j:=j) (by omega))];simp only[I,Ac,Aw];rw[Cj,Lv (by omega),bJ,bZ,Lf];refine Ok.st1 F rfl rfl (by simp;omega) ?_;have p:(C.put ll (.cells (((List.range n).map fun(z:Nat)=>I (f z)).set j (I (f j+by'))) 3)).get ll=some (.cells ((List.range n).map fun(z:Nat)=>I (Bmg f j (f j+by') z)) 3):=by rw[Af,Bh5]
  have G:Av (fun i=>i=ll) C (C.put ll (.cells (((List.range n).map fun(z:Nat)=>I (f z)).set j (I (f j+by'))) 3)):=(Av.refl (S:=fun i=>i=ll) C).Ar (.inl rfl) o _;have nb:b≠ll:=Bb J F (by intro y;injection y with _ y;cases y);have n4:h.next≠ll:=fun y=>by have:=hb _ _ M;omega
  have u:=G.at m J nb;have A:=G.at m g4 n4;rw[show EV.int .i64 (f j+by')=I (f j+by')from rfl];generalize C.put ll (.cells (((List.range n).map fun(z:Nat)=>I (f z)).set j (I (f j+by'))) 3)=h2 at p G u A⊢;have q:=G.hb m;have lb:=q _ _ u;have L:=q _ _ A;have o:=q _ _ p;have nk:¬(k:Int)=j:=by omega
  have fk:Bmg f j (f j+by') k=f k:=by unfold Bmg;rw[aF nk]
  try simp only[Aw]
  rw[Ku lb,Al u rfl (v:=.slice ll 0 n n false) rfl]
  try simp only[Aa,Aw]
  rw[Ku L,Al A rfl (v:=I x.Ba) rfl,O]
  try simp only[I,Aa,Aw]
  rw[Lv (by omega),bJ,bZ,Ku o,Al p rfl (A4o n _ (j:=k) (by omega)),fk];simp only[I,Ac,Aw];rw[Cj,Lv (by omega),bJ,bZ,Lf];refine Ok.st1 p rfl rfl (by simp;omega) ?_;refine .ret ⟨rfl,?_,(E.to.trans G).Ar (.inl rfl) o _,q.put o _⟩;rw[Af];have:(EV.int .i64 (f k+by'))=I (f k+by'):=rfl;rw[this,Bh5];congr 2;apply cj;intro z _;congr 1;unfold Bmg Aas;rw[s1,hj,O];by_cases e1:(z:Int)=k
  ·rw[aG e1,aG ⟨rfl,.inr e1.symm⟩,e1];omega
  ·rw[aF e1]
   by_cases e2:(z:Int)=j
   ·rw[aG e2,aG ⟨rfl,.inl e2.symm⟩,e2];omega
   ·rw[aF e2,aF (fun y=>y.2.elim (fun a=>e2 a.symm) fun a=>e1 a.symm)];omega
 ·simp only[s1,aA,Aa]
  refine .ret ⟨rfl,?_,E.to,m⟩;rw[F];congr 2;apply cj;intro z _;unfold Aas;rw[aF (fun y=>s1 y.1),Int.mul_zero,Int.add_zero]
def A81(g:Gm)(es:List Me)(j:Int)(x:Me):List Me × Int:=if 0<=j/\j<es.length then(if meR g x=true then(es.set j.toNat x,0)else(es,10))else(es,13)
theorem Ax1{ll:Nat}{es:List Me}(s:Sm g)(m:W8 h b ml ll g es)(hb:HB h)(hz:x.state=1->Rng x.Aj/\Rng x.Ba)(j:Int):
 Ok (Qc K (.ptr b 0) (I j) (.agg x.cells) h) fun v h'=>v=I (A81 g es j x).2/\W8 h' b ml ll g (A81 g es j x).1/\Av (fun i=>i=ml\/i=ll) h h'/\HB h':=by
 have:=s.b0;have:=s.b1;have:=s.d0;have:=s.d1;have:=s.z0;have:=s.z1;obtain⟨m0,m1⟩:=Va (a:=g.D) (b:=g.Z) (A:=8) (B:=64) (by omega) (by omega) (by omega) (by omega);simp only[Qc,Aa];obtain⟨h1,e_,x1,g5,_⟩:=nW h (.cells x.cells 47);rw[e_];have J:=x1.hb hb;have M1:=m.ext fun i o q=>x1.at hb q
 refine(Qh (K:=K) s M1 J j).An ?_;rintro _ h2 ⟨rfl,x2⟩;have V:=x2.hb J;simp only[Aa];refine Ok.stA (Ad _ _) rfl rfl ?_;obtain⟨h3,e_,x3,g7,_⟩:=nP h2 (.cells [EV.int .i64 0,.int .i64 0,.int .i64 0,.int .i64 0,.int .i64 0,.int .i64 0] 47) (.cells (Atk es j).1.cells 47);rw[e_];have u:=x3.hb V;have L:Ext h h3:=(x1.trans x2).trans x3;have M3:=m.ext fun i o q=>L.at hb q
 have M:=x3.at V (x2.at J g5);unfold A81;have hlen:=m.len;by_cases hj:0<=j/\j<es.length
 ·obtain⟨k,rfl⟩:=aY hj.1
  have hk:k<es.length:=by omega
  have eg:Atk es (k:Int)=(es[k],0):=by
   unfold Atk;rw[aG hj,aZ,aC hk];rfl
  rw[eg]at g7⊢;rw[aG hj];simp only[I,Ac,aD,aA,Aa,Aw];have l5:=u _ _ M;have lb:=u _ _ M3.map;rw[Ku l5,Db M rfl,Ai (n:=6) rfl]
  try simp only[Aa,Aw]
  rw[Ku lb,Bp M3.map rfl (show Oy (gL g++[.slice ml 0 g.B.toNat g.B.toNat false,.slice ll 0 (g.D*g.Z).toNat (g.D*g.Z).toNat false]) 0 6=some (gL g)from rfl)]
  try simp only[Aa,Aw]
  rw[show EV.agg (gL g)=gV g from rfl];refine Ok.bE (Bc1 (K:=K) (g:=g) (x:=x) (D4 u) hz) (fun _ _ p=>p.2) ?_;rintro _ bz h4 ⟨rfl,_⟩ _ x4;have E:=x4.hb u;have O:Ext h h4:=L.trans x4;have F:=m.ext fun i o q=>O.at hb q
  by_cases W:meR g x=true
  ·rw[aG W,W]
   simp only[Aa,Aq7];have ax:=x4.at u g7;have ay:=x4.at u M;rw[Db ax rfl,Ai (n:=6) rfl]
   try simp only[Aa]
   have hn:g.D*g.Z=((g.D*g.Z).toNat:Int):=by omega
   have bd:∀z,-1000<=La es z/\La es z<=1000:=fun z=>by have:=Akx z es;omega
   refine(Bc0 (K:=K) (ml:=ml) hn (by omega) F.map F.live E (x:=es[k]) (m.ok _ (av hk)) (by':=-1) (.inr rfl) bd).An ?_;rintro _ h5 ⟨rfl,az,c5,G⟩;have nb:b≠ll:=Bb F.map F.live (by intro y;injection y with _ y;cases y);have nm:ml≠ll:=Bb F.row F.live (by intro y;injection y with _ y;cases y);have a0:b≠ml:=Bb F.map F.row (by intro y;injection y with _ y;cases y);have X:h.next≠ll:=fun y=>by have:=hb _ _ m.live;omega
   have b5:h.next≠ml:=fun y=>by have:=hb _ _ m.row;omega
   have Y:=c5.at E F.map nb;have a1:=c5.at E F.row nm;have aa:=c5.at E ay X;rw[Db aa rfl,Ai (n:=6) rfl]
   try simp only[Aa]
   refine(Bc0 (K:=K) (ml:=ml) hn (by omega) Y az G (x:=x) W (f:=fun z=>La es z + -1*Aas z es[k]) (by':=1) (.inl rfl) (fun z=>by
    show -1000<=La es z + -1*Aas z es[k]/\La es z + -1*Aas z es[k]<=1000;have:=Akx z es;have:=Baq z es[k];omega)).An ?_
   rintro _ h6 ⟨rfl,a3,c6,C⟩;have U:=c6.at G Y nb;have ab:=c6.at G a1 nm;have ad:=c6.at G aa X;have a6:=C _ _ U;have a7:=C _ _ ad;have ba:=C _ _ ab
   try simp only[Aw]
   rw[Ku a6,Al U rfl (v:=.slice ml 0 g.B.toNat g.B.toNat false) rfl]
   try simp only[Aa,Aw]
   rw[Ku a7,Db ad rfl,Ai (n:=6) rfl]
   try simp only[Aa,Aw]
   rw[Lv (by omega),bJ,Lf];have fs:O0 (es.map Me.cells).flatten (k*6) x.cells=some ((es.set k x).map Me.cells).flatten:=by
    rw[A01 (n:=6) (fun y hy=>by obtain⟨z,_,rfl⟩:=bc.1 hy;rfl) (by rw[bX];exact hk) rfl,List.map_set]
   refine Ok.st _ ab rfl rfl fs ?_;have c7:Av (fun i=>i=ml) h6 (h6.put ml (.cells ((es.set k x).map Me.cells).flatten 47)):=(Av.refl (S:=fun i=>i=ml) h6).Ar (.inl rfl) ba _;have bf:=c7.at C U a0;have bj:=c7.at C a3 (cV nm);refine .ret ⟨rfl,⟨bf,Af _ _ _,?_,by rw[bK];exact hlen,fun y hy=>?_⟩,?_,c7.hb C⟩
   ·rw[bj]
    congr 2;apply cj;intro z _;rw[aZ,A8d z x es k hk];congr 1;omega
   ·rcases cm hy with y'|rfl
    ·exact m.ok _ y'
    ·exact W
   ·exact(Ext.to O).trans (((c5.mono fun i e=>.inr e).trans (c6.mono fun i e=>.inr e)).trans (c7.mono fun i e=>.inl e))
  ·have bk:meR g x=false:=by cases h:meR g x<;>simp_all
   rw[aF W,bk];simp only[Aa];exact .ret ⟨rfl,F,O.to,E⟩
 ·have eg:Atk es j=(Me.nil 0,13):=by unfold Atk;rw[aF hj]
  rw[eg,aF hj];simp only[I,Ac,show ¬((13:Int)=0) by decide,aN,aB,Aa];exact .ret ⟨rfl,M3,L.to,u⟩
theorem A6c{z q:Nat}{size:Int}{Z:Zn}(f:Gh h z q size Z)(hb:HB h):
 Ok (Ii K (.ptr z 0) h) fun v h'=>v=I (Na Z.st)/\Gh h' z q size (if Na Z.st=0 then Zn.empty else Z)/\Av (fun i=>i=z) h h'/\HB h':=by
 obtain⟨s,g,r⟩:=f.Aj;have a:=hb _ _ g;simp only[Ii,Adb f,Aa,I,Ac];by_cases k:Na Z.st=0
 ·simp only[k,aD,aA,Aa,bM,Qr]
  refine Ok.st1 g rfl rfl (by show 0<5;decide) ?_;refine Ok.st1 (Af _ _ _) rfl rfl (by show 2<5;decide) ?_;refine Ok.st1 (Af _ _ _) rfl rfl (by show 3<5;decide) ?_;refine Ok.st1 (Af _ _ _) rfl rfl (by show 4<5;decide) ?_;refine .ret ⟨rfl,⟨⟨.Ao,Af _ _ _,Cs.nil _ _ _ _⟩,fun x m=>by cases m⟩,((((Av.refl (S:=fun i=>i=z) h).Ar (.inl rfl) a _).Ar (.inl rfl) a _).Ar (.inl rfl) a _).Ar (.inl rfl) a _,(((hb.put a _).put a _).put a _).put a _⟩
 ·simp only[k,aN,aB,Aa,bD]
  exact .ret ⟨rfl,f,Av.refl _,hb⟩
noncomputable def Dv.reset(D:Dv)(i:Int):Dv × Int:=
 if D.Fs i≠0 then(D,D.Fs i)else
 (if Na (D.zs i.toNat).st=0 then D.tick.set i.toNat Zn.empty else D.tick,Na (D.zs i.toNat).st)
theorem Zn.Wf.empty {size:Nat}(h:0<size):Zn.empty.Wf size:=⟨fun x a=>(by cases a),by show 0<=4;omega,aE _,cQ _,fun _=>h⟩
theorem A8u{V:Nat}{D:Dv}{F:Nat->Prop}(d:It h V D F)(hb:HB h)(hs:0<D.size)(i:Int):
 Ok (Vr K (.ptr V 0) (I i) h) fun v h'=>v=I (D.reset i).2/\It h' V (D.reset i).1 (Bg F h h')/\Av F h h'/\HB h':=by
 simp only[Vr,dr];refine(Ai3 (K:=K) d hb i).An ?_;rintro _ h2 ⟨rfl,d2,c2,o,L⟩;unfold Dv.reset;by_cases f:D.Fs i=0
 ·rw[aF (by rw[f];exact fun y=>y rfl),f]
  have u:D.begin i=D.tick:=by unfold Dv.begin;rw[aG f]
  rw[u]at d2;obtain⟨j,rfl,hj⟩:=Dv.Bam f;obtain⟨zl,z,q,a,b⟩:=d2.Qu;obtain⟨B,C⟩:=a.Be3 (j:=j) hj;simp only[I,Ac,aD,aA,Aa,Ago,a.list,B,C];refine(A6c (K:=K) (a.Aj j hj) o).An ?_;rintro _ E ⟨rfl,A,c3,p⟩
  try simp only[Aa]
  rw[show(j:Int).toNat=j from rfl];have A:Gh E (z j) (q j) D.size (if Na (D.zs j).st=0 then Zn.empty else D.zs j):=A;by_cases G:Na (D.zs j).st=0
  ·simp only[G,bM]at A⊢
   obtain⟨d3,m⟩:=It.Aj d2.wf a b d2.lt o hj (Zn.Wf.empty hs) A (c3.mono fun _=>.inl) p (fun y=>absurd rfl y);refine .ret ⟨by rw[show Na (D.tick.zs j).st=Na (D.zs j).st from rfl,G],d3.mono (fun i J=>?_) (Bg.lt d.lt (c2.trans m).next),c2.trans m,p⟩;rcases J with y|y
   ·exact .inl y
   ·exact .inr ⟨bN c2.next y.1,y.2⟩
  ·simp only[G,bD]at A⊢
   obtain⟨d3,m⟩:=It.Aj d2.wf a b d2.lt o hj (d2.wf.zs j hj) A (c3.mono fun _=>.inl) p (fun y=>.inr ⟨rfl,y⟩);have e:D.tick.set j (D.zs j)=D.tick:=by
    unfold Dv.set;have:Ki D.tick.zs j (D.zs j)=D.tick.zs:=by funext k;unfold Ki;split<;>simp_all [Dv.tick]
    rw[this]
   have d3:It E V (D.tick.set j (D.zs j)) (Bg F h2 E):=d3;rw[e]at d3;refine .ret ⟨rfl,d3.mono (fun i J=>?_) (Bg.lt d.lt (c2.trans m).next),c2.trans m,p⟩;rcases J with y|y
   ·exact .inl y
   ·exact .inr ⟨bN c2.next y.1,y.2⟩
 ·rw[aG f]
  have u:D.begin i=D:=by unfold Dv.begin;rw[aF f]
  rw[u]at d2;simp only[I,Ac,f,aN,aB,Aa];exact .ret ⟨rfl,d2.grow d.lt c2.next,c2,o⟩
noncomputable def Lk.reset(S:Lk)(i:Int):Lk × Int:=({ S.begin i with dv:=((S.begin i).dv.reset i).1 },((S.begin i).dv.reset i).2)
theorem Bay(H:Bj disp)(O:1000<K)(hd:14<=d){D:Nat}{S:Lk}{G:Nat->Prop}(f:Bbg disp K S)(s:G2 h D S G)(hb:HB h)(i:Int)(hs:0<(S.begin i).dv.size):
 Ok (Ae TT disp K d false 133 [.ptr D 0,I i] h) fun v h'=>v=I (S.reset i).2/\G2 h' D (S.reset i).1 (Bg G h h')/\Av G h h'/\HB h':=by
 obtain⟨e,rfl⟩:∃k,d=k+1:=⟨d-1,by omega⟩;rw[At4 H (by omega)];simp only[Aof,dr];refine(Aiv (K:=K) H (by omega) f s hb i).An ?_;rintro _ h2 ⟨s2,c2,m⟩;unfold Lk.reset;generalize S.begin i=T at s2 hs⊢;obtain⟨V,M,qc,qh,cs,B,ms,F,a⟩:=s2.Qu;simp only[Aa,C8 a.Eb rfl];refine(A8u (K:=K) a.dev m hs i).An ?_;rintro _ C ⟨rfl,d3,c3,o⟩;obtain⟨E,p⟩:=s2.put a m d3 c3;have A:=E.Bnm c2.next p.next s.lt
 have c4:=c2.grow p;simp only[I,Ac];by_cases he:(T.dv.reset i).2=0
 ·simp only[he,aB,Aa,Acy]
  have J:(T.dv.reset i).1.size<=64:=d3.wf.size;refine(Be2 (K:=K) i K 0 C (by show(T.dv.reset i).1.size-0<K;omega) A o).An ?_;rintro _ U ⟨L,q,u⟩;simp only[Zw,dr];refine .ret ⟨by rw[<-he],L.mono (fun j hj=>Bg.le q.next hj) (Bg.lt s.lt (bN c4.next q.next)),c4.grow q,u⟩
 ·simp only[he,aA,Aa,Zw]
  exact .ret ⟨rfl,A,c4,o⟩
theorem Ok.Bwm{s:DX}{call:Ab->R}{k:EV->Ab->DX->R}{P:EV->Ab->Prop}(hb:Aj0 b s=true)(A:Ok (call (Mx b s h)) P)(he:∀v a,P v a->Ext (Mx b s h) a)
 (B:∀v a h2,P v a->(∀i,h2.get i=if i∈loose b s.nw then h.get i else a.get i)->h2.next=a.next->Ext h h2->Ok (k v h2 (s.big i)) Q):Ok (Ev.L5 i b s h call k) Q:=by
 obtain⟨v,a,e,p⟩:=A;have x:=he v a p;have hm:h.next<=a.mw:=x.mw h.next (aE _) (aE _) fun _ y=>y.elim
 have u:∀j,(Mx b s h).get j=if j∈loose b s.nw then none else h.get j:=fun j=>by rw[Ajp];exact(Aw2 _ _ _).trans (by rw[Ajp])
 have C:Ev.L5 i b s h call k=k v ⟨Agx h.t a.t (loose b s.nw),a.next,h.mw⟩ (s.big i):=by
  show Bf (Aj0 b s) (Ev.An (call (Mx b s h)) fun v h'=>Th i b s h h' fun s h=>k v h s) none=_;rw[hb,Ak,e];show Th i b s h a (fun s h=>k v h s)=_;unfold Th;rw[aS hm,Ak]
 rw[C];have m:∀j,(⟨Agx h.t a.t (loose b s.nw),a.next,h.mw⟩:Ab).get j=if j∈loose b s.nw then h.get j else a.get j:=fun j=>by
  rw[Ajp];exact(Axj _ _ _ _).trans (by rw[Ajp,Ajp])
 refine B v a _ p m rfl ⟨fun j hj D=>?_,x.next,fun w w1 _ _=>w1,fun y q o f=>?_⟩
 ·rw[m]
  split
  ·rfl
  ·rename_i E
   rw[x.get j hj D,u,aF E]
 ·rw[m]at f
  split at f
  ·exact aK (y q o f) x.next
  ·exact x.hb (fun q o f=>by
    rw[u]at f;split at f
    ·cases f
    ·exact y q o f) q o f
theorem Aqc {z:List EV}(a:n<=65536)(h:Ab):Mp z e (I n) (I n) h=some (.slice h.next 0 n n false,h.new (.cells (rep z n) e)):=by
 show Bf (Nat.ble n n) (Bf (Nat.ble n 65536) _ none) none=_;rw[aS (aE _),Ak,aS a,Ak]
theorem Azy:∀(By new:List EV),new.length<=By.length->Ld By new=some (new++By.drop new.length)
 | By,[],_=>by cases By<;>rfl
 | [],b::r,h=>by simp at h
 | a::By,b::r,h=>by
  show(match Ld By r with|some x=>some (b::x)|none=>none)=_;rw[Azy By r (by simpa using h)];rfl
theorem Bmd{m r:Nat}{op:Bool}{t:TypeId}{By new:List EV}(g:h.get i=some (.cells By t))(k:lenOf y=some n)(p:0<n)(hm:n<=m)(f:N9 h 1 n y=some new)(o:new.length=n)(q:By.length=m):
 builtin TT .copy #[173,173] [.slice i 0 m r op,y] h=some (I n,h.put i (.cells (new++By.drop n) t)):=by
 have hu:TT.Za 173=some (.slice 5):=by kernel_rfl
 have hs:TT.size 5=some 1:=by kernel_rfl
 have hb:Nat.ble n m=true:=aS hm;have h0:Nat.beq n 0=false:=by cases n with|zero=>omega|succ n=>rfl
 have hw:Oq h i 0 new=some (h.put i (.cells (new++By.drop n) t)):=by
  unfold Oq;rw[g];simp only;have:Gw By 0 new=Ld By new:=by cases By<;>rfl
  rw[this,Azy By new (by omega),o]
 rw[Au3]at f;have a:lenOf (.slice i 0 m r op)=some m:=rfl;unfold builtin;simp only[hu,hs,a,k,hb,Ak,h0,Bo,f,hw];rfl
structure Bnp(h:Ab)(P t:Nat)(out:List Nat)(S:Nat->Prop):Prop where
 Qu:∃s q,h.get P=some (.cells [s,.bool false] t)/\Cs h s q 5 1 out.length (Bh out)/\(0<out.length->P≠q/\S q)
 own:S P
theorem Blx {w:Nat}{a:Nat}(B:a<9223372036854775808)(hw:w<=7){out:List Nat}(C:out.length<=60000)(h0:Ab)(hS:∀i,h0.next<=i->S i):∀(m i:Nat) (h:Ab),w-i<m->i<=w->HB h->Av S h0 h->Bnp h P t (out++Zz i a) S ->
 Ok (K7 K m (.ptr P 0) (Nk .i64 (a/256^i)) (I w) (I i) h) fun _ h'=>Bnp h' P t (out++Zz w a) S/\Av S h0 h'/\HB h':=by
 intro m;induction m with
 | zero=>intro i h hm;omega
 | succ m u=>
  intro i h hm D hb c p;obtain⟨s,q,g,r,l⟩:=p.Qu;simp only[K7,I,Ac,Aa];by_cases f:(i:Int)<w
  ·simp only[f,aB,Aa,Aei,C8 g rfl]
   rw[wrap_u8];have hlen:(out++Zz i a).length=out.length+i:=by rw[aH,H6]
   refine Qe (z:=[.int .u8 0]) r hb rfl rfl rfl (by omega) (by omega) ?_;intro h2 A E c2;have k:=c2.at hb g fun y=>(l y.1).1 y.2
   have o:=(c2.hb hb) _ _ k;refine Ok.st1 k rfl rfl (by show 0<2;decide) ?_;rw[Auv];simp only[Aee,I,Ac];rw[Cj,fG,<-eR];have c3:Av S h (h2.put P (.cells ([s,EV.bool false].set 0 (.slice (h.next+1) 0 ((out++Zz i a).length+1) ((out++Zz i a).length+1) true)) t)):=(c2.mono fun j hj=>hj.2▸(l hj.1).2).Ar (.inl p.own) o _;refine u (i+1) _ (by omega) (by omega) ((c2.hb hb).put o _) (c.trans c3) ?_;rw[A4b,<-cW];have lt:=hb _ _ g;refine⟨⟨_,h.next+1,Af _ _ _,?_,fun _=>⟨by omega,hS _ (by have:=c.next;omega)⟩⟩,p.own⟩;have e1:((out++Zz i a)++[a/256^i%256]).length=(out++Zz i a).length+1:=by rw[aH];rfl
   have e2:Bh ((out++Zz i a)++[a/256^i%256])=Bh (out++Zz i a)++EV.cells (Nk .u8 (a/256^i%256)):=by rw[Ayq];rfl
   rw[e1,e2];exact A.frame fun _=>Ag _
  ·have:i=w:=by omega
   subst this;simp only[f,aA,Aa];exact .ret ⟨p,c,hb⟩
def Anq(h:Ab)(P n:Nat)(S:Nat->Prop):Prop:=∃out,Bnp h P 233 out S/\out.length=n/\∀b∈out,b<256
theorem Anq.chg(p:Anq h P n S)(hb:HB h)(c:Av T h h')(no:∀i,S i->i<h.next->¬T i):Anq h' P n S:=by
 obtain⟨out,⟨⟨s,q,g,r,l⟩,o⟩,b⟩:=p;exact⟨out,⟨⟨s,q,c.at hb g (no _ o (hb _ _ g)),r.frame fun y=>c.get _ (hb _ _ (r.block y)) (no _ (l y).2 (hb _ _ (r.block y))),l⟩,o⟩,b⟩
theorem Anq.mono(p:Anq h P n S)(s:∀i,S i->T i):Anq h P n T:=by
 obtain⟨out,⟨⟨e,q,g,r,l⟩,o⟩,b⟩:=p;exact⟨out,⟨⟨e,q,g,r,fun y=>⟨(l y).1,s _ (l y).2⟩⟩,s _ o⟩,b⟩
def Bt1(S:Nat->Prop)(h:Ab):Nat->Prop:=fun i=>S i\/h.next<=i
theorem Bql {w:Nat}(A:1000<K)(p:Anq h P n S)(hb:HB h)(E:n<=1000)(B:1<=w)(o:w<=7)(v0:0<=v)(F:v<=9223372036854775807)(G:v<(256^w:Nat)):
 Ok (Ex K (.ptr P 0) (.int .i64 w) (.int .i64 v) h) fun _ h'=>Anq h' P (n+w) (Bt1 S h)/\Av S h h'/\HB h':=by
 obtain⟨out,p,C,hu⟩:=p.mono (T:=Bt1 S h) fun i=>.inl
 obtain⟨a,rfl⟩:=aY v0;have k:a<9223372036854775808:=by omega
 have q:=(A7f k B o).2 (by omega);simp only[Ex,dr];have u:=Agy (K:=K) (w:Int) h;simp only[I]at u;rw[u,aM ⟨by omega,by omega⟩];simp only[Aa,Ac];have wp:=A7u (K:=K) k A h;rw[show(EV.int .i64 (a:Int))=.int .i64 (Int.ofNat a)from rfl,wp,As];simp only[Nk,Ac];rw[show decide ((w:Int)<Int.ofNat (Ajn a))=false from aP (by show ¬(w:Int)<((Ajn a:Nat):Int);omega)];simp only[Aa,Rp,Aes];have:=Blx (K:=K) (P:=P) (t:=233) (w:=w) k o (out:=out) (by omega) (S:=Bt1 S h) h (fun i=>.inr) K 0 h (by omega) (cQ _) hb (Av.refl _) (by simpa [Zz]using p);rw[Nat.pow_zero,Nat.div_one]at this;refine this.mono ?_;rintro _ h' ⟨D,c,m⟩;exact⟨⟨_,D,by rw[aH,H6,C],fun b hb=>by
  rcases bO.1 hb with y|y
  ·exact hu b y
  ·exact Aev _ _ b y⟩,⟨fun i f hs=>c.get i f fun y=>by
   rcases y with y|y
   ·exact hs y
   ·omega,c.next,fun w1 e1 e2 e3=>c.mw w1 e1 e2 fun i f=>by
   rcases f with f|f
   ·exact e3 i f
   ·omega,c.hb⟩,m⟩
theorem Bcb(o:S h.next):Anq (h.new (.cells [.Ao,.bool false] 233)) h.next 0 S:=⟨[],⟨⟨.Ao,0,Ad _ _,Cs.nil _ _ _ _,fun y=>absurd y (bS _)⟩,o⟩,rfl,fun b hb=>by cases hb⟩
def Aw1(v:EV):Prop:=∃l:List Nat,v=.agg (Bh l)/\l.length=44/\∀b∈l,b<256
theorem Azd(p:Anq h P n S)(hb:HB h)(h0:0<n)(W:n<=44):Ok (Apd K (.ptr P 0) h) fun v h'=>Aw1 v/\Ext h h'/\HB h':=by
 obtain⟨out,a,E,hu⟩:=p;simp only[Apd,Aa];rw[show(h.new (.cells (List.replicate 44 (EV.int .u8 0)) 165)).next=h.next+1 from rfl];have u:Ext h ((h.new (.cells (List.replicate 44 (EV.int .u8 0)) 165)).new (.cells (List.replicate 44 (EV.int .u8 0)) 165)):=(Av.new _ _).Ds _;have F:((h.new (.cells (List.replicate 44 (EV.int .u8 0)) 165)).new (.cells (List.replicate 44 (EV.int .u8 0)) 165)).get h.next=some (.cells (List.replicate 44 (EV.int .u8 0)) 165):=by
  rw[Az _ (aL _)];exact Ad _ _
 have A:((h.new (.cells (List.replicate 44 (EV.int .u8 0)) 165)).new (.cells (List.replicate 44 (EV.int .u8 0)) 165)).get (h.next+1)=some (.cells (List.replicate 44 (EV.int .u8 0)) 165):=Ad _ _;generalize (h.new (.cells (List.replicate 44 (EV.int .u8 0)) 165)).new (.cells (List.replicate 44 (EV.int .u8 0)) 165)=h1 at u F A⊢;have f:=u.hb hb;obtain⟨⟨s,q,g,r,l⟩,_⟩:=a;refine(A1y (K:=K) (u.at hb g) (r.frame fun y=>u.get _ (hb _ _ (r.block y)) id) f (by omega)).An ?_;rintro _ h2 ⟨y,q',rfl,X,G,J,lq⟩;have F:=G.at f F;have A:=G.at f A;simp only[Aa];rw[show ∀k:EV->R,Uk 44 1 (.ptr (h.next+1) 0) none none none k=k (.slice (h.next+1) 0 44 44 false)from fun k=>rfl];have B:=X.bs (by omega);have L:=Bmd (h:=h2) (i:=h.next+1) (n:=n) (m:=44) (r:=44) (op:=false) (t:=165) (By:=List.replicate 44 (EV.int .u8 0)) A (by rw[<-E];exact B.len) h0 W (by rw[<-E];exact B.cells) (by rw[Be,E]) (by simp);rw[L,As];have Y:=J _ _ A;have Z:Bh out++(List.replicate 44 (EV.int .u8 0)).drop n=Bh (out++List.replicate (44-n) 0):=by
  rw[Ayq,List.drop_replicate];unfold Bh;rw[fI];rfl
 rw[Z];have o:(out++List.replicate (44-n) 0).length=44:=by rw[aH,bQ,E];omega
 have C:∀b∈out++List.replicate (44-n) 0,b<256:=fun b hb=>by
  rcases bO.1 hb with y|y
  ·exact hu b y
  ·rw[bP y];decide
 generalize out++List.replicate (44-n) 0=l at o C⊢;have g5:(h2.put (h.next+1) (.cells (Bh l) 165)).get (h.next+1)=some (.cells (Bh l) 165):=Af _ _ _;have M:(h2.put (h.next+1) (.cells (Bh l) 165)).get h.next=some (.cells (List.replicate 44 (EV.int .u8 0)) 165):=by rw[Ag _];exact F
 have O:=u.trans G;have U:=O.Ar (i:=h.next+1) (.inr (by omega)) Y (.cells (Bh l) 165);generalize h2.put (h.next+1) (.cells (Bh l) 165)=h5 at g5 M U⊢;have D:=U.hb hb;have ul:(Bh l).length=44:=by rw[Be,o]
 rw[Db g5 rfl,Ai ul];simp only[Ia];have V:=D _ _ M;refine Ok.st (Bh l) M rfl (by show Gk (Bh l)=44;rw[Bc,ul]) (Bm (by show(List.replicate 44 (EV.int .u8 0)).length=(Bh l).length;rw[ul,bQ])) ?_;rw[Yr (Af _ _ _) A65.1 A65.2 ul];exact .ret ⟨⟨l,rfl,o,C⟩,U.Ar (.inr (aE _)) V _,D.put V _⟩
theorem Bed{z:List EV}{v:EV}(k:Aw1 v)(a:h.get i=some (.cells z 165))(m:z.length=44)(x:Ext h0 h)(hb:HB h)(o:h0.next<=i):Ok (stE 44 (.ptr i 0) v h fun h=>Ji TT [.c (.ptr i 0) 165] h) fun v h'=>Aw1 v/\Ext h0 h'/\HB h':=by
 obtain⟨l,rfl,f,hu⟩:=k;have ul:(Bh l).length=44:=by rw[Be,f]
 have lt:=hb _ _ a;refine Ok.st (Bh l) a rfl (by show Gk (Bh l)=44;rw[Bc,ul]) (Bm (by show z.length=(Bh l).length;rw[ul,m])) ?_;rw[Yr (Af _ _ _) A65.1 A65.2 ul];exact .ret ⟨⟨l,rfl,f,hu⟩,x.Ar (.inr o) lt _,hb.put lt _⟩
theorem A49:∀(l:List (List EV)) (j:Nat) (x:List EV),(∀x∈l,x.length=n)->l[j]? = some x->Oy l.flatten (j*n) n=some x:=by
 have len:∀l:List (List EV),(∀x∈l,x.length=n)->l.flatten.length=l.length*n:=fun l=>by
  induction l with
  | nil=>intro _;simp
  | cons a r k=>intro h;rw[cC,aH,h a (aX ..),k fun x f=>h x (aT _ f),bH,fL];omega
 intro l j x m f;have hj:=(aW.1 f).1;rw[Fw (by rw[len l m];have:=Nat.mul_le_mul_right n (show j+1<=l.length from hj);rw[fL]at this;exact this)];congr 1;induction l generalizing j with
 | nil=>cases f
 | cons a r k=>
  have o:=m a (aX ..);cases j with
  | zero=>
   rw[bL]at f;cases f;rw[gA,dC,cC,<-o,fF]
  | succ j=>
   rw[bm]at f;rw[cC,fL,show j*n+n=a.length+j*n by omega,<-dh,gH];exact k j (fun x f=>m x (aT _ f)) f (aW.1 f).1
theorem Ok.stW{z:List EV}(f:h.get i=some (.cells z t))(k:z.length=n)(a:xs.length=n)(m:Ok (kk (h.put i (.cells xs t))) Q):Ok (stE n (.ptr i 0) (.agg xs) h kk) Q:=
 Ok.st xs f rfl (by show Gk xs=n;rw[Bc,a]) (Bm (by show z.length=xs.length;rw[a,k])) m
theorem Anq.less(p:Anq h P n S)(hb:HB h)(t:∀i,S i->i<h.next->T i):Anq h P n T:=by
 obtain⟨out,⟨⟨e,q,g,r,l⟩,o⟩,b⟩:=p;exact⟨out,⟨⟨e,q,g,r,fun y=>⟨(l y).1,t _ (l y).2 (hb _ _ (r.block y))⟩⟩,t _ o (hb _ _ g)⟩,b⟩
theorem Vx {w:Nat}(k:1000<K)(p:Anq h P n S)(hb:HB h)(hS:∀i,h.next<=i->S i)(m:n<=1000)(o:1<=w)(q:w<=7)(v0:0<=v)(u:v<=9223372036854775807)(A:v<(256^w:Nat)):
 Ok (Ex K (.ptr P 0) (.int .i64 w) (.int .i64 v) h) fun _ h'=>Anq h' P (n+w) S/\Av S h h'/\HB h'/\∀i,h'.next<=i->S i:=
 (Bql k p hb m o q v0 u A).mono fun _ _ ⟨a,c,b⟩=>⟨a.mono fun i f=>f.elim id (hS i),c,b,fun i f=>hS i (bN c.next f)⟩
theorem Amx{ll:Nat}{es:List Me}(m:W8 h b ml ll g es)(hb:HB h):Ok (Qk K (.ptr b 0) h) fun v h'=>v=gV g/\Ext h h'/\HB h':=by
 simp only[Qk,Aa];have a:Ext h (h.new (.cells [EV.int .i64 0,.int .i64 0,.int .i64 0,.int .i64 0,.int .i64 0,.int .i64 0] 23)):=Av.new _ _;have k:=a.hb hb;rw[Db (a.at hb m.map) rfl,show Oy (gL g++[.slice ml 0 g.B.toNat g.B.toNat false,.slice ll 0 (g.D*g.Z).toNat (g.D*g.Z).toNat false]) 0 6=some (gL g)from rfl];simp only[Aa];refine Ok.st (gL g) (Ad _ _) rfl rfl (Bm rfl) ?_;rw[Yr (Af _ _ _) Bsi.1 Bsi.2 rfl];have f:=a.Ar (i:=h.next) (.inr (aE _)) (aL _) (.cells (gL g) 23);exact .ret ⟨rfl,f,f.hb hb⟩
theorem Bph(s:Sm g)(h:meR g x=true):(0<=x.state/\x.state<=2)/\(0<=x.Aj/\x.Aj<=511)/\(0<=x.Ba/\x.Ba<=511)/\(0<=x.off/\x.off<=63)/\(0<=x.seq/\x.seq<=281474976710655)/\(0<=x.sum/\x.sum<=4294967295):=by
 have:=s.d0;have:=s.d1;have:=s.z0;have:=s.z1;have:=s.s1;obtain⟨m,m1⟩:=Va (a:=g.D) (b:=g.Z) (A:=8) (B:=64) (by omega) (by omega) (by omega) (by omega);unfold meR at h;split at h
 ·rename_i h0
  rw[dN h];unfold Me.nil;refine⟨?_,?_,?_,?_,?_,?_⟩<;>simp only<;>omega
 ·split at h
  ·unfold meB Xo at h
   simp only[aR,Fl,aQ]at h;obtain⟨⟨_,⟨a,b⟩,c,d⟩,⟨_,⟨e,f⟩,_⟩,_,i,j,k,l⟩:=h;refine⟨?_,?_,?_,?_,?_,?_⟩<;>omega
  ·cases h
theorem Bfz{es:List Me}(h:∀x∈es,meR g x=true)(j:Int):meR g (Atk es j).1=true:=by
 have n0:meR g (Me.nil 0)=true:=by unfold meR;rw[aG (.inl rfl)];exact aM rfl
 unfold Atk;split
 ·cases a:es[j.toNat]? with
  | none=>exact n0
  | some y=>exact h y (bY a)
 ·exact n0
theorem Bci(sm:Sm g)(O:meR g x=true)(f:1000<K)(p:Anq h P n S)(hb:HB h)(hS:∀i,h.next<=i->S i)(hn:n<=900):
 Ok (Ay2 K (.ptr P 0) (.agg x.cells) h) fun _ h'=>Anq h' P (n+16) S/\Av S h h'/\HB h'/\∀i,h'.next<=i->S i:=by
 obtain⟨b1,b2,b3,b4,b5,b6⟩:=Bph sm O;simp only[Ay2,Aa];obtain⟨E,U,B,F,n1⟩:=nW h (.cells x.cells 47);rw[U];have m:=B.hb hb;have t1:∀i,E.next<=i->S i/\i≠h.next:=fun i k=>⟨hS i (by omega),by omega⟩
 have p1:Anq E P n (fun i=>S i/\i≠h.next):=(p.less hb (T:=fun i=>S i/\i≠h.next) fun i a b=>⟨a,by omega⟩).chg hb B fun _ _ _=>id
 rw[Al F rfl (v:=I x.state) rfl];refine(Vx f p1 m t1 (by omega) (w:=1) (by omega) (by omega) (v:=x.state) (by omega) (by omega) (by omega)).An ?_;rintro _ h2 ⟨p2,c2,o,t2⟩;have G:=c2.at m F fun y=>y.2 rfl
 rw[Al G rfl (v:=I x.Aj) rfl];refine(Vx f p2 o t2 (by omega) (w:=2) (by omega) (by omega) (v:=x.Aj) (by omega) (by omega) (by omega)).An ?_;rintro _ h3 ⟨V,c3,q,t3⟩;have J:=c3.at o G fun y=>y.2 rfl
 rw[Al J rfl (v:=I x.Ba) rfl];refine(Vx f V q t3 (by omega) (w:=2) (by omega) (by omega) (v:=x.Ba) (by omega) (by omega) (by omega)).An ?_;rintro _ h4 ⟨W,c4,u,t4⟩;have g4:=c4.at q J fun y=>y.2 rfl
 rw[Al g4 rfl (v:=I x.off) rfl];refine(Vx f W u t4 (by omega) (w:=1) (by omega) (by omega) (v:=x.off) (by omega) (by omega) (by omega)).An ?_;rintro _ h5 ⟨X,L,A,t5⟩;have g5:=L.at u g4 fun y=>y.2 rfl
 rw[Al g5 rfl (v:=I x.seq) rfl];refine(Vx f X A t5 (by omega) (w:=6) (by omega) (by omega) (v:=x.seq) (by omega) (by omega) (by omega)).An ?_;rintro _ h6 ⟨Y,M,C,t6⟩;have Z:=M.at A g5 fun y=>y.2 rfl
 rw[Al Z rfl (v:=I x.sum) rfl];refine(Vx f Y C t6 (by omega) (w:=4) (by omega) (by omega) (v:=x.sum) (by omega) (by omega) (by omega)).An ?_;rintro _ h7 ⟨p7,c7,D,t7⟩;exact .ret ⟨p7.mono fun i k=>k.1,(B.mono fun _=>False.elim).trans (((((c2.trans c3).trans c4).trans L).trans M).trans c7|>.mono fun i k=>k.1),D,fun i k=>(t7 i k).1⟩
theorem A9r(L:1000<K){ll:Nat}(s:Sm g){es:List Me}(m:W8 h b ml ll g es)(hb:HB h){x:EV}{sq:Int}(q0:0<=sq)(q1:sq<=281474976710655):
 Ok (Auz K (.agg [x,y,I sq,.ptr b 0]) h) fun v h'=>Aw1 v/\Ext h h'/\HB h':=by
 simp only[Auz,Aa];have M:Ext h ((h.new (.cells [x,y,I sq,.ptr b 0] 160)).new (.cells (List.replicate 44 (.int .u8 0)) 165)):=(Av.new _ _).Ds _;have g1:((h.new (.cells [x,y,I sq,.ptr b 0] 160)).new (.cells (List.replicate 44 (.int .u8 0)) 165)).get h.next=some (.cells [x,y,I sq,.ptr b 0] 160):=by rw[Az _ (aL _)];exact Ad _ _
 have f1:((h.new (.cells [x,y,I sq,.ptr b 0] 160)).new (.cells (List.replicate 44 (.int .u8 0)) 165)).get (h.next+1)=some (.cells (List.replicate 44 (.int .u8 0)) 165):=Ad _ _;have n1:((h.new (.cells [x,y,I sq,.ptr b 0] 160)).new (.cells (List.replicate 44 (.int .u8 0)) 165)).next=h.next+2:=rfl
 generalize (h.new (.cells [x,y,I sq,.ptr b 0] 160)).new (.cells (List.replicate 44 (.int .u8 0)) 165)=h1 at M g1 f1 n1⊢;have U:=M.hb hb;rw[Al g1 rfl (v:=.ptr b 0) rfl];refine(Amx (K:=K) (m.frame (M.get _ (hb _ _ m.map) id) (M.get _ (hb _ _ m.row) id) (M.get _ (hb _ _ m.live) id)) U).An ?_;rintro _ h2 ⟨rfl,x2,V⟩;have g2:=x2.at U g1;have f2:=x2.at U f1;refine Ok.stW (xs:=gL g) (Ad _ _) rfl rfl ?_;rw[Ay (l:=[.Ao,.bool false]) rfl];simp only[Aa];obtain⟨o,e_,x3,e3,n3⟩:=nP h2 (.cells [EV.int .i64 0,.int .i64 0,.int .i64 0,.int .i64 0,.int .i64 0,.int .i64 0] 23) (.cells (gL g) 23);rw[e_];have p:=x3.hb V;have x4:Ext o (o.new (.cells [.Ao,.bool false] 233)):=Av.new _ _;have p4:Anq (o.new (.cells [.Ao,.bool false] 233)) o.next 0 (fun i=>o.next<=i):=Bcb (aE _)
 have n4:(o.new (.cells [.Ao,.bool false] 233)).next=o.next+1:=rfl
 generalize o.new (.cells [.Ao,.bool false] 233)=h4 at x4 p4 n4⊢;have q:=x4.hb p;have g4:=x4.at p (x3.at V g2);have f4:=x4.at p (x3.at V f2);have e4:=x4.at p e3;have l1:=x2.next
 have W:¬o.next<=h.next:=by omega
 have X:¬o.next<=h.next+1:=by omega
 have Y:¬o.next<=h2.next:=by omega
 have:=s.d0;have:=s.d1;have:=s.z0;have:=s.z1;have:=s.s0;have:=s.s1;have:=s.b0;have:=s.b1;have:=s.p0;have:=s.p1;have:=s.o0;have:=s.o1;have t4:∀i,h4.next<=i->o.next<=i:=fun i hi=>by omega
 rw[Al g4 rfl (v:=I sq) rfl];refine(Vx L p4 q t4 (by omega) (w:=6) (by omega) (by omega) (v:=sq) (by omega) (by omega) (by omega)).An ?_;rintro _ h5 ⟨p5,c5,u,t5⟩;have g5:=c5.at q g4 W;have f5:=c5.at q f4 X;have e5:=c5.at q e4 Y;rw[Al e5 rfl (v:=I g.D) rfl];refine(Vx L p5 u t5 (by omega) (w:=1) (by omega) (by omega) (v:=g.D) (by omega) (by omega) (by omega)).An ?_;rintro _ h6 ⟨p6,c6,A,t6⟩;have g6:=c6.at u g5 W;have f6:=c6.at u f5 X;have e6:=c6.at u e5 Y;rw[Al e6 rfl (v:=I g.Z) rfl];refine(Vx L p6 A t6 (by omega) (w:=1) (by omega) (by omega) (v:=g.Z) (by omega) (by omega) (by omega)).An ?_;rintro _ h7 ⟨p7,c7,C,t7⟩;have g7:=c7.at A g6 W;have f7:=c7.at A f6 X;have e7:=c7.at A e6 Y;rw[Al e7 rfl (v:=I g.S) rfl];refine(Vx L p7 C t7 (by omega) (w:=1) (by omega) (by omega) (v:=g.S) (by omega) (by omega) (by omega)).An ?_;rintro _ h8 ⟨p8,c8,E,t8⟩;have g8:=c8.at C g7 W;have f8:=c8.at C f7 X;have e8:=c8.at C e7 Y;rw[Al e8 rfl (v:=I g.B) rfl];refine(Vx L p8 E t8 (by omega) (w:=2) (by omega) (by omega) (v:=g.B) (by omega) (by omega) (by omega)).An ?_;rintro _ h9 ⟨p9,c9,F,t9⟩;have g9:=c9.at E g8 W;have f9:=c9.at E f8 X;have e9:=c9.at E e8 Y;rw[Al e9 rfl (v:=I g.P) rfl];refine(Vx L p9 F t9 (by omega) (w:=1) (by omega) (by omega) (v:=g.P) (by omega) (by omega) (by omega)).An ?_;rintro _ bn ⟨aq,G,f,t10⟩;have au:=G.at F g9 W;have f10:=G.at F f9 X;have e10:=G.at F e9 Y;rw[Al e10 rfl (v:=I g.O) rfl];refine(Vx L aq f t10 (by omega) (w:=1) (by omega) (by omega) (v:=g.O) (by omega) (by omega) (by omega)).An ?_;rintro _ bo ⟨aw,k,J,t11⟩;have bp:=k.at f au W;have f11:=k.at f f10 X;have e11:=k.at f e10 Y;refine(Azd aw J (by omega) (by omega)).An ?_;rintro v ax ⟨hv,ab,ad⟩;have x5:Ext h h4:=((M.trans x2).trans x3).trans x4;have k:=((((((c5.trans c6).trans c7).trans c8).trans c9).trans G).trans k);have x:Ext h ax:=(x5.then k fun i a b=>by have:=M.next;omega).trans ab;exact Bed hv (ab.at J f11) (by simp) x ad (by show h.next<=h.next+1;omega)
theorem A48 {es:List Me}(J:1000<K){h4:Ab}{ll n3 r:Nat}(s:Sm g){l:List EV}(L:l[3]? = some (.ptr b 0)){j:Int}(j0:1<=j)(j1:j<=255)(M:∀h,Av (fun i=>n3<=i) h4 h->Ext h0 h)(O:h0.next<=r)(k1:t<n3)(k2:r<n3)(k3:b<n3)(k4:ml<n3)(k5:ll<n3):∀(n i:Nat) (h:Ab),2-i<n->i<=2->HB h->(∀i,h.next<=i->n3<=i)->Av (fun i=>n3<=i) h4 h->Anq h P (1+16*i) (fun i=>n3<=i)->W8 h b ml ll g es->h.get t=some (.cells l 160)->h.get r=some (.cells (List.replicate 44 (.int .u8 0)) 165) ->
 Ok (Abw K n (I j) (.ptr t 0) (.ptr r 0) (.ptr P 0) (I i) h) fun v h'=>Aw1 v/\Ext h0 h'/\HB h':=by
 intro n;induction n with
 | zero=>intro i h U;omega
 | succ n V=>
  intro i h U B hb W c p m gt C;rw[Abw];simp only[I,Ac,Aa];by_cases X:i<2
  ·have:decide ((i:Int)<2)=true:=by simp;omega
   simp only[this,Aa,Ay9];rw[Al gt rfl L];simp only[Ac];rw[show Dz .i64 (j-1)=j-1 from Cj,show Dz .i64 (2*(j-1))=2*(j-1)from Cj,show Dz .i64 (2*(j-1)+i)=2*(j-1)+i from Cj];refine(Qh (K:=K) s m hb (2*(j-1)+i)).An ?_;rintro _ h2 ⟨rfl,D⟩;have q:=D.hb hb;have E:=Bfz m.ok (2*(j-1)+(i:Int));generalize (Atk es (2*(j-1)+(i:Int))).1=x at E⊢;simp only[Aa];refine Ok.mk rfl rfl fun h3 F e3 _=>?_
   have u:=F.hb q;rw[Bp e3 rfl (Ai (n:=6) rfl)];have f:=D.trans F;refine(Bci s E J (p.chg hb f fun _ _ _=>id) u (fun i B=>W i (bN f.next B)) (by omega)).An ?_;rintro _ G ⟨Y,Z,A,t5⟩;have a:Av (fun i=>n3<=i) h G:=(Ext.to f).trans Z;simp only[Ay5,I,Ac];rw[Cj,show((i:Nat):Int)+1=((i+1:Nat):Int) by omega];refine V (i+1) G (by omega) (by omega) A t5 (c.trans a) ?_ ?_ ?_ ?_
   ·rw[Nat.mul_succ,<-Nat.add_assoc];exact Y
   ·exact m.frame (a.get _ (hb _ _ m.map) (by omega)) (a.get _ (hb _ _ m.row) (by omega)) (a.get _ (hb _ _ m.live) (by omega))
   ·exact a.at hb gt (by omega)
   ·exact a.at hb C (by omega)
  ·have:decide ((i:Int)<2)=false:=by simp;omega
   have:i=2:=by omega
   subst this;simp only[this,Aa,Ayr];refine(Azd p hb (by omega) (by omega)).An ?_;rintro v aa ⟨hv,k,o⟩;exact Bed hv (k.at hb C) (by simp) ((M h c).trans k) o O
theorem Ba7(D:1000<K){ll:Nat}(s:Sm g){es:List Me}(m:W8 h b ml ll g es)(hb:HB h){x z:EV}{j:Int}(G:1<=j)(J:j<=255):
 Ok (Ava K (.agg [x,y,z,.ptr b 0]) (I j) h) fun v h'=>Aw1 v/\Ext h h'/\HB h':=by
 simp only[Ava,Aa];rw[Ay (l:=[.Ao,.bool false]) rfl];simp only[Aa];have B:Ext h ((h.new (.cells [x,y,z,.ptr b 0] 160)).new (.cells (List.replicate 44 (.int .u8 0)) 165)):=(Av.new _ _).Ds _;have E:((h.new (.cells [x,y,z,.ptr b 0] 160)).new (.cells (List.replicate 44 (.int .u8 0)) 165)).get h.next=some (.cells [x,y,z,.ptr b 0] 160):=by rw[Az _ (aL _)];exact Ad _ _
 have f1:((h.new (.cells [x,y,z,.ptr b 0] 160)).new (.cells (List.replicate 44 (.int .u8 0)) 165)).get (h.next+1)=some (.cells (List.replicate 44 (.int .u8 0)) 165):=Ad _ _;have L:((h.new (.cells [x,y,z,.ptr b 0] 160)).new (.cells (List.replicate 44 (.int .u8 0)) 165)).next=h.next+2:=rfl
 rw[show(h.new (Ec.cells [x,y,z,EV.ptr b 0] 160)).next=h.next+1 from rfl];generalize (h.new (.cells [x,y,z,.ptr b 0] 160)).new (.cells (List.replicate 44 (.int .u8 0)) 165)=k at B E f1 L⊢;have o:=B.hb hb;have q:Ext k (k.new (.cells [.Ao,.bool false] 233)):=Av.new _ _;have F:Anq (k.new (.cells [.Ao,.bool false] 233)) k.next 0 (fun i=>k.next<=i):=Bcb (aE _)
 have n4:(k.new (.cells [.Ao,.bool false] 233)).next=k.next+1:=rfl
 generalize k.new (.cells [.Ao,.bool false] 233)=h4 at q F n4⊢;have f:=q.hb o;have l1:=hb _ _ m.map;have M:=hb _ _ m.row;have O:=hb _ _ m.live;have u:=B.trans q;refine(Vx D F f (fun i W=>by omega) (by omega) (w:=1) (by omega) (by omega) (v:=j) (by omega) (by omega) (by omega)).An ?_;rintro _ U ⟨V,p,C,t5⟩;refine A48 (es:=es) (n3:=k.next) D s rfl G J (h0:=h) (h4:=h4) (b:=b) (ml:=ml) (ll:=ll) (fun h' c=>u.then c fun i a b=>by omega) (Nat.le_succ _) (by omega) (by omega) (by omega) (by omega) (by omega) K 0 U (by omega) (by omega) C t5 p V ?_ (p.at f (q.at o E) (by omega)) (p.at f (q.at o f1) (by omega));have A:=m.frame (u.get _ l1 id) (u.get _ M id) (u.get _ O id);exact A.frame (p.get _ (f _ _ A.map) (by omega)) (p.get _ (f _ _ A.row) (by omega)) (p.get _ (f _ _ A.live) (by omega))
section
theorem Bwl:(E4 TT 131 0).2.1 = [29,30]:=by kernel_rfl
def A1f(sq:Int)(es:List Me):Bool:=es.any fun x=>decide (sq<=x.seq)
structure Bkj(h:Ab)(l0 d0:Nat)(tm:Ax)(b1 b2:Nat)(x y w:EV)(sq:Int)(found:Bool):Prop where
 lp:h.get l0=some (Au TT 131 36 0 tm (if found then .done else .ready) (if found then some .ret else none) d0)
 c1:h.get b1=some (.cells [x,y,I sq,w] 160)
 c2:h.get b2=some (.cells [.bool false] 4)
 hb:HB h
section
variable (H:Bj disp)
include H
theorem Bem(he:2<=e){l0 d0 b1:Nat}{x w:EV}{sq i:Int}{z:Me}(C:Bkj h l0 d0 tm b1 b2 x y w sq false)(t1:tmp tm 1=.ptr b1 0)(t2:tmp tm 2=.ptr b2 0):
 ∃h',Ae TT disp K (e+1) true l0 [I i,.agg z.cells] h=some (.bool (decide (¬sq<=z.seq)),h')/\Bkj h' l0 d0 tm b1 b2 x y w sq (decide (sq<=z.seq))/\Av (fun j=>j=l0\/j=b2) h h':=by
 have q:=C.lp;simp only[ak,bD]at q;have k:=q;have J:=C.c1;have L:=C.c2;have hb:=C.hb;unfold Au at k;rw[Bwl]at k;rw[Aqe H he tm h (I i) _ k,t1,t2];have V:=hb _ _ q;have m:l0≠b1:=Bb q J (by simp[Au]);have f:l0≠b2:=Bb q L (by simp[Au]);have M:b1≠b2:=Bb J L (by intro y;injection y with _ y;cases y);simp only[Aka,Aa];rw[An9 (h:=h.new (.cells [EV.int .i64 0,.int .i64 0,.int .i64 0,.int .i64 0,.int .i64 0,.int .i64 0] 47)) (i:=h.next) (o:=0) (n:=6) (v:=.agg z.cells) (l:=[EV.int .i64 0,.int .i64 0,.int .i64 0,.int .i64 0,.int .i64 0,.int .i64 0]) (t:=47) (l':=z.cells) (Ad _ _) rfl rfl (Bm rfl)];obtain⟨p,W,u,e3,_⟩:=nP h (.cells [EV.int .i64 0,.int .i64 0,.int .i64 0,.int .i64 0,.int .i64 0,.int .i64 0] 47) (.cells z.cells 47);rw[W];have A:=u.hb hb;have q0:=u.at hb q;have O:=A _ _ q0;rw[Abi q0];have c4:Av (fun j=>j=l0\/j=b2) h (p.put l0 (Au TT 131 36 0 tm .busy none d0)):=(Ext.to (S:=fun j=>j=l0\/j=b2) u).Ar (.inl (.inl rfl)) O _;have r0:(p.put l0 (Au TT 131 36 0 tm .busy none d0)).get l0=some (Au TT 131 36 0 tm .busy none d0):=Af _ _ _;have D:(p.put l0 (Au TT 131 36 0 tm .busy none d0)).get b1=some (.cells [x,y,I sq,w] 160):=by rw[Ag _ m];exact u.at hb J
 have E:(p.put l0 (Au TT 131 36 0 tm .busy none d0)).get b2=some (.cells [.bool false] 4):=by rw[Ag _ f];exact u.at hb L
 have U:(p.put l0 (Au TT 131 36 0 tm .busy none d0)).get h.next=some (.cells z.cells 47):=by rw[Ag _];exact e3
 have a:HB (p.put l0 (Au TT 131 36 0 tm .busy none d0)):=A.put O _;generalize p.put l0 (Au TT 131 36 0 tm .busy none d0)=h4 at c4 r0 D E U a⊢;have F:=a _ _ r0;have B:=a _ _ E;simp only[Adp,Aa];rw[Al U rfl (v:=I z.seq) rfl,Al D rfl (v:=I sq) rfl];simp only[I,Ac];by_cases G:sq<=z.seq
 ·have e1:decide (z.seq≥sq)=true:=aM G
  simp only[e1,Aa,G,aD,aA,aB];rw[An9 (o:=0) (n:=1) (v:=.bool false) (l':=[.bool false]) E rfl rfl rfl,Tm (by rw[Ag _ (cV f)];exact r0)];exact⟨_,rfl,⟨Af _ _ _,by rw[Ag _ m,Ag _ (cV M)];exact D,by rw[Ag _ f];exact Af _ _ _,(a.put B _).put (by rw[Ab.Si];exact F) _⟩,(c4.Ar (.inl (.inr rfl)) B _).Ar (.inl (.inl rfl)) (by rw[Ab.Si];exact F) _⟩
 ·have e1:decide (z.seq≥sq)=false:=aP G
  simp only[e1,Aa,G,aN,aA,aB];rw[Tm r0];exact⟨_,rfl,⟨Af _ _ _,by rw[Ag _ m];exact D,by rw[Ag _ f];exact E,a.put F _⟩,c4.Ar (.inl (.inl rfl)) F _⟩
theorem Bg9(he:3<=e){es:List Me}{l0 d0 b1:Nat}{x w:EV}{sq:Int}(M:es.length<=256)(t1:tmp tm 1=.ptr b1 0)(t2:tmp tm 2=.ptr b2 0):∀(m i:Nat) (h:Ab),es.length-i<m->i<=es.length->Bkj h l0 d0 tm b1 b2 x y w sq false ->
 h.get ml=some (.cells (es.map Me.cells).flatten 47)->ml≠l0->ml≠b2 ->
 Ok (Bq (Ae TT disp K e false) (Ae TT disp K e true) K m (.yld l0) (.slice ml 0 es.length es.length false) (I es.length) (I i) h) fun _ h'=>Bkj h' l0 d0 tm b1 b2 x y w sq (A1f sq (es.drop i))/\Av (fun j=>j=l0\/j=b2) h h':=by
 intro m;induction m with
 | zero=>intro i h hm;omega
 | succ m F=>
  intro i h hm O f E p q;rw[Bq];simp only[I,Ac,Aa];by_cases o:i<es.length
  ·have:decide ((i:Int)<(es.length:Int))=true:=by simp;omega
   simp only[this,Aa,Eu];rw[Lv o,bJ,Bp E rfl (Avh es o)];rw[show A1f sq (es.drop i)=(decide (sq<=es[i].seq)||A1f sq (es.drop (i+1))) by rw[dE o];rfl];generalize es[i]=z
   try simp only[Aa]
   refine Ok.mk rfl rfl fun C u e3 _=>?_
   have D:=u.hb f.hb;rw[Bp e3 rfl (Ai (n:=6) rfl)];obtain⟨e,rfl⟩:∃k,e=k+1:=⟨e-1,by omega⟩;have G:Xq (Ae TT disp K (e+1) false) (Ae TT disp K (e+1) true) (.yld l0) [.int .i64 (i:Int),.agg z.cells] C=Ae TT disp K (e+1) true l0 [I i,.agg z.cells] C:=rfl;obtain⟨h4,J,A,c4⟩:=Bem (K:=K) H (e:=e) (by omega) (i:=i) (z:=z) (⟨u.at f.hb f.lp,u.at f.hb f.c1,u.at f.hb f.c2,D⟩:Bkj C l0 d0 tm b1 b2 x y w sq false) t1 t2;rw[G,J,As];have c:Av (fun j=>j=l0\/j=b2) h h4:=(Ext.to u).trans c4;by_cases B:sq<=z.seq
   ·simp only[B,aB]at A
    simp only[B,aD,aA,Aa,aB,Bool.true_or];exact .ret ⟨A,c⟩
   ·simp only[B,aA]at A
    simp only[B,aN,aB,aA,Aa,Bool.false_or,Et,Ac];rw[Cj,show((i:Nat):Int)+1=((i+1:Nat):Int) by omega];refine(F (i+1) h4 (by omega) (by omega) A (c.at f.hb E fun y=>y.elim p q) p q).mono ?_;rintro _ U ⟨a,L⟩;exact⟨a,c.trans L⟩
  ·have:decide ((i:Int)<(es.length:Int))=false:=by simp;omega
   have e0:es.drop i = []:=List.drop_eq_nil_of_le (by omega);rw[e0];simp only[this,Aa];exact .ret ⟨f,Av.refl _⟩
omit H in
theorem A52 {l:Int}(h:Ab):Yh K (I v) (I l) h=some (.bool (decide (1<=v)&&decide (v<=l)),h):=by
 simp only[Yh,As7,I,Ac,Aa];by_cases a:1<=v<;>by_cases h2:v<=l<;>simp[a,h2,Aa]
end
end
section
def snR(x y z:Int)(es:List Me):Bool:=(decide (1<=x)&&decide (x<=281474976710655))&&((decide (1<=y)&&decide (y<=4294967295))&&((decide (1<=z)&&decide (z<=281474976710655))&&!A1f z es))
theorem Ai9 {a:Ab}{q:Nat}{b:Bool}(f:a.get q=some (.cells [.bool b] 4)):Ji TT [.c (.ptr q 0) 4] a=some (.bool b,a):=by
 have k:K0 a q 0 1=some [.bool b]:=by unfold K0;rw[f];rfl
 unfold Ji;simp only[A22,show TT.size 4=some 1 by kernel_rfl,show TT.agg 4=some false by kernel_rfl,k]
section
variable (H:Bj disp)
include H
theorem A40(he:4<=e)(hK:1000<K){p:Ab}(w1:Ext h0 p){ll b1:Nat}{es:List Me}(s:Sm g)(m:W8 p b ml ll g es)(f:HB p)(l1:h0.next<=b1)(l2:h0.next<=b2)(lm:ml<h0.next){x:EV}{z:Int}(V:p.get b1=some (.cells [x,y,I z,.ptr b 0] 160))(f1:p.get b2=some (.cells [.bool false] 4))(t1:tmp tm 1=.ptr b1 0)(t2:tmp tm 2=.ptr b2 0):
 Ok (Aao (Ae TT disp K e false) (Ae TT disp K e true) K tm (.ptr b1 0) (.ptr b2 0) p []) fun v h'=>v=.bool (!A1f z es)/\Ext h0 h'/\HB h':=by
 have:=s.b0;have:=s.b1;have hlen:=m.len;simp only[Aao,Aa];rw[Al V rfl (v:=.ptr b 0) rfl];simp only[Tc,Aa,Ei];rw[Al m.map rfl (v:=.slice ml 0 g.B.toNat g.B.toNat false) rfl,<-hlen];simp only[Aa];obtain⟨h2,e_,Z,q2,n2⟩:=nW p (.cells [.slice ml 0 es.length es.length false] 113);rw[e_];have D:=Z.hb f;have E:tmp (((tm.put 26 (some (.ptr b1 3))).put 27 (some (.ptr b 0))).put 28 (some (.func 104 [] [.ptr p.next 0]))) 1=.ptr b1 0:=by simp only[Gz,reduceIte,Nat.reduceEqDiff];exact t1
 have F:tmp (((tm.put 26 (some (.ptr b1 3))).put 27 (some (.ptr b 0))).put 28 (some (.func 104 [] [.ptr p.next 0]))) 2=.ptr b2 0:=by simp only[Gz,reduceIte,Nat.reduceEqDiff];exact t2
 generalize (((tm.put 26 (some (.ptr b1 3))).put 27 (some (.ptr b 0))).put 28 (some (.func 104 [] [.ptr p.next 0])))=tm at E F⊢;obtain⟨e,rfl⟩:∃k,e=k+1:=⟨e-1,by omega⟩;refine Ok.range ?_;have L:Ext h2 (Ca TT 131 36 0 tm h2):=Jj;have W:(Ca TT 131 36 0 tm h2).get h2.next=some (.deferred true):=Le
 have k1:(Ca TT 131 36 0 tm h2).get (h2.next+1)=some (Au TT 131 36 0 tm .ready none h2.next):=J1;generalize Ca TT 131 36 0 tm h2=M at L W k1⊢;have u:=L.hb D;have q:Ext p M:=Z.trans L;have ai:=f _ _ V;have aj:=f _ _ f1;have al:=f _ _ m.row;rw[Gs H (cQ _)];simp only[Fq,dr];rw[Al (L.at D q2) rfl (v:=.slice ml 0 es.length es.length false) rfl];simp only[Aa];have I3:Bkj M (h2.next+1) h2.next tm b1 b2 x y (.ptr b 0) z false:=⟨k1,q.at f V,q.at f f1,u⟩
 refine(Bg9 (K:=K) H (e:=e) (by omega) (es:=es) (ml:=ml) (by omega) E F K 0 M (by omega) (by omega) I3 (q.at f m.row) (by omega) (by omega)).mono ?_;rw[dC];rintro _ h4 ⟨G,c4⟩;have aq:=w1.next
 have O:=G.hb _ _ G.lp;have k2:h2.next<M.next:=u _ _ W
 have kd:h4.get h2.next=some (.deferred true):=c4.at u W (by omega)
 have x4:Ext h0 h4:=(w1.trans q).then c4 fun i U a=>by omega
 have ne:h2.next≠b2:=by omega
 have lp:=G.lp;have c2:=G.c2;have J:=G.hb;revert lp;generalize A1f z es=bb;intro lp;cases bb with
 | true=>
  simp only[bM]at lp;refine .inr ⟨lp,?_⟩;have o:HB (h4.put (h2.next+1) (Au TT 131 36 0 tm .exhausted (some .ret) h2.next)):=J.put O _;refine Ok.unwind (cB.2 ⟨by simp,cq⟩) (fun d hd=>by rw[aO]at hd;subst hd;rw[Ag _];exact kd) o fun X A _=>?_
  have Y:X.get b2=some (.cells [.bool false] 4):=Av.at A o (by rw[Ag _];exact c2) (by rw[aO];omega);rw[Ai9 Y];exact .ret ⟨rfl,(x4.Ar (.inr (by omega)) O _).then A fun i U a=>by rw[aO]at U;omega,A.hb o⟩
 | false=>
  simp only[ak,bD]at lp;refine .inl ⟨lp,?_⟩;simp only[Aal,dr];have o:HB (h4.put (h2.next+1) (Au TT 131 36 0 tm .exhausted none h2.next)):=J.put O _;have g5:(h4.put (h2.next+1) (Au TT 131 36 0 tm .exhausted none h2.next)).get b2=some (.cells [.bool false] 4):=by rw[Ag _];exact c2
  have x5:Ext h0 (h4.put (h2.next+1) (Au TT 131 36 0 tm .exhausted none h2.next)):=x4.Ar (.inr (by omega)) O _;have d5:(h4.put (h2.next+1) (Au TT 131 36 0 tm .exhausted none h2.next)).get h2.next=some (.deferred true):=by rw[Ag _];exact kd
  generalize h4.put (h2.next+1) (Au TT 131 36 0 tm .exhausted none h2.next)=h5 at o g5 x5 d5⊢;have l6:=o _ _ g5;refine Ok.st1 g5 rfl rfl (by show 0<1;decide) ?_;have C:HB (h5.put b2 (.cells ([EV.bool false].set 0 (.bool true)) 4)):=o.put l6 _;refine Ok.unwind (cB.2 ⟨by simp,cq⟩) (fun d hd=>by rw[aO]at hd;subst hd;rw[Ag _ (cV ne)];exact d5) C fun X A _=>?_
  have Y:X.get b2=some (.cells [.bool true] 4):=Av.at A C (Af _ _ _) (by rw[aO];exact cV ne);rw[Ai9 Y];exact .ret ⟨rfl,(x5.Ar (.inr l2) l6 _).then A fun i U a=>by rw[aO]at U;omega,A.hb C⟩
end
end
theorem Ag4 {l:Int}(h:Ab):Yh K (.int .i64 v) (.int .i64 l) h=some (.bool (decide (1<=v)&&decide (v<=l)),h):=A52 h
theorem Bqn {a:Ab}(f1:a.get b2=some (.cells [.bool false] 4))(w1:Ext h0 a)(f:HB a)(k:h0.next<=b2):Ok (stE 1 (.ptr b2 0) (.bool false) a fun h=>E1 [] h fun h=>Ji TT [.c (.ptr b2 0) 4] h) fun v h'=>v=.bool false/\Ext h0 h'/\HB h':=by
 have l:=f _ _ f1;refine Ok.st1 f1 rfl rfl (by show 0<1;decide) ?_;show Ok (Ji TT [.c (.ptr b2 0) 4] (a.put b2 (.cells [.bool false] 4))) _;rw[Ai9 (b:=false) (Af _ _ _)];exact .ret ⟨rfl,w1.Ar (.inr k) l _,f.put l _⟩
section
variable (H:Bj disp)
include H
theorem Awp(hd:5<=d)(o:1000<K){ll:Nat}{es:List Me}(s:Sm g)(m:W8 h b ml ll g es)(hb:HB h)(x y z:Int):
 Ok (Ae TT disp K d false 131 [.agg [I x,I y,I z,.ptr b 0]] h) fun v h'=>v=.bool (snR x y z es)/\Ext h h'/\HB h':=by
 obtain⟨e,rfl⟩:∃k,d=k+1:=⟨d-1,by omega⟩;rw[Avi H (by omega)];simp only[Are,Aa];have w1:Ext h ((h.new (.cells [I x,I y,I z,.ptr b 0] 160)).new (.cells [.bool false] 4)):=(Av.new _ _).Ds _;have a:((h.new (.cells [I x,I y,I z,.ptr b 0] 160)).new (.cells [.bool false] 4)).get h.next=some (.cells [I x,I y,I z,.ptr b 0] 160):=by rw[Az _ (aL _)];exact Ad _ _
 have f1:((h.new (.cells [I x,I y,I z,.ptr b 0] 160)).new (.cells [.bool false] 4)).get (h.next+1)=some (.cells [.bool false] 4):=Ad _ _;have p:((h.new (.cells [I x,I y,I z,.ptr b 0] 160)).new (.cells [.bool false] 4)).next=h.next+2:=rfl
 rw[show(h.new (Ec.cells [I x,I y,I z,EV.ptr b 0] 160)).next=h.next+1 from rfl];generalize (h.new (.cells [I x,I y,I z,.ptr b 0] 160)).new (.cells [.bool false] 4)=u at w1 a f1 p⊢;have f:=w1.hb hb;have no:=Bqn (h0:=h) f1 w1 f (Nat.le_succ _);have q:Cg (.tuple []) false=false/\Cg (.tuple []) true=false:=⟨rfl,rfl⟩;unfold snR;rw[Al a rfl (v:=.ptr b 0) rfl,show ∀k:EV->R,Kl An2 (bin TT .eql 43) (.ptr b 0) .E3 k=k (.bool false)from fun k=>by kernel_rfl];simp only[Aa,Ac];rw[Al a rfl (v:=I x) rfl]
 try simp only[I]
 rw[Ag4,As];cases(decide (1<=x)&&decide (x<=281474976710655))with
 | false=>
  simp only[Aa,Ac,S7,N6,K2,bA];exact no
 | true=>
 simp only[Aa,Ac,S7,bF];rw[Al a rfl (v:=I y) rfl]
 try simp only[I]
 rw[Ag4,As];cases(decide (1<=y)&&decide (y<=4294967295))with
 | false=>
  simp only[Aa,Ac,N6,K2,bA];exact no
 | true=>
 simp only[Aa,Ac,N6,bF];rw[Al a rfl (v:=I z) rfl]
 try simp only[I]
 rw[Ag4,As];cases(decide (1<=z)&&decide (z<=281474976710655))with
 | false=>
  simp only[Aa,Ac,K2,bA];exact no
 | true=>
 simp only[Aa,Ac,K2,bF];have m1:=m.frame (w1.get _ (hb _ _ m.map) id) (w1.get _ (hb _ _ m.row) id) (w1.get _ (hb _ _ m.live) id);exact A40 H (by omega) o w1 s m1 f (aE _) (Nat.le_succ _) (hb _ _ m.row) a f1 (by simp only[Gz,reduceIte,Nat.reduceEqDiff]) (by simp only[Gz,reduceIte,Nat.reduceEqDiff])
end
end Go.Ev
