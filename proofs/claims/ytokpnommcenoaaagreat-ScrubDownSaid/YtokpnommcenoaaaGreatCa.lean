import Derived.Test.YtokpnommcenoaaaGreatVb
import Derived.Test.YtokpnommcenoaaaGreatDc
set_option linter.all false
namespace Go.Ev
open Go.Proofs
set_option maxRecDepth 100000
variable {h h' h0:Ab}{K P b d e i j n t b2 ml:Nat}{g:Gm}{es:List Me}{xs:List EV}{kk:Ab->R}{Q:EV->Ab->Prop}{x:Me}{y:EV}{S T:Nat->Prop}{v sq:Int}{tm:Bb}{disp:Nat->Option FT}
instance:DecidableEq Me:=fun a b=>by
 cases a;cases b;simp only[Me.mk.injEq];exact inferInstance
def Me.nil(s:Int):Me:=⟨s,0,0,0,0,0⟩
def meR(g:Gm)(x:Me):Bool:=if x.state=0\/x.state=2 then decide (x=Me.nil x.state)else if x.state=1 then meB g x else false
def Ajl(z:Int)(x:Me):Int:=if x.state=1/\(x.An=z\/x.Bt=z)then 1 else 0
def Wq(es:List Me)(z:Int):Int:=(es.map (Ajl z)).foldr (· + ·) 0
theorem Z7(x:Me)(es:List Me)(z:Int):Wq (x::es) z=Ajl z x+Wq es z:=rfl
theorem Bgo(z:Int)(x:Me):0<=Ajl z x/\Ajl z x<=1:=by unfold Ajl;split<;>omega
theorem Aux(z:Int):∀es:List Me,0<=Wq es z/\Wq es z<=es.length
 | []=>⟨fY _,fY _⟩
 | x::es=>by
  have:=Aux z es;have:=Bgo z x;rw[Z7,bK];omega
theorem A48(z:Int)(y:Me):∀(es:List Me) (j:Nat) (hj:j<es.length),Wq (es.set j y) z=Wq es z-Ajl z es[j]+Ajl z y
 | x::es,0,_=>by
  rw[List.set_cons_zero,Z7,Z7];show Ajl z y+Wq es z=Ajl z x+Wq es z-Ajl z x+Ajl z y;omega
 | x::es,j+1,hj=>by
  have a:j<es.length:=by simpa using hj
  rw[List.set_cons_succ,Z7,Z7,A48 z y es j a];show _=Ajl z x+Wq es z-Ajl z es[j]+Ajl z y;omega
structure Lj(h:Ab)(b ml ll:Nat)(g:Gm)(es:List Me):Prop where
 map:h.get b=some (.cells (gL g++[.slice ml 0 g.B.toNat g.B.toNat false,.slice ll 0 (g.D*g.Z).toNat (g.D*g.Z).toNat false]) 143)
 row:h.get ml=some (.cells (es.map Me.cells).flatten 53)
 live:h.get ll=some (.cells ((List.range (g.D*g.Z).toNat).map fun(z:Nat)=>I (Wq es z)) 3)
 len:es.length=g.B.toNat
 ok:∀x∈es,meR g x=true
theorem Lj.frame{ll:Nat}(m:Lj h b ml ll g es)(e1:h'.get b=h.get b)(e2:h'.get ml=h.get ml)(e3:h'.get ll=h.get ll):Lj h' b ml ll g es:=⟨by rw[e1];exact m.map,by rw[e2];exact m.row,by rw[e3];exact m.live,m.len,m.ok⟩
theorem Lj.ext{ll:Nat}(m:Lj h b ml ll g es)(e:∀i o,h.get i=some o->h'.get i=some o):Lj h' b ml ll g es:=⟨e _ _ m.map,e _ _ m.row,e _ _ m.live,m.len,m.ok⟩
theorem A4d:∀(l:List (List EV)) (j:Nat) (x:List EV),(∀x∈l,x.length=n)->l[j]? = some x->Mj l.flatten (j*n) n=some x:=by
 have len:∀l:List (List EV),(∀x∈l,x.length=n)->l.flatten.length=l.length*n:=fun l=>by
  induction l with
  | nil=>intro _;simp
  | cons a r k=>intro h;rw[br,aG,h a (aV ..),k fun x f=>h x (aT _ f),bK,fB];omega
 intro l j x m f;have hj:=(bJ.1 f).1;rw[E6 (by rw[len l m];have:=Nat.mul_le_mul_right n (show j+1<=l.length from hj);rw[fB]at this;exact this)];congr 1;induction l generalizing j with
 | nil=>cases f
 | cons a r k=>
  have o:=m a (aV ..);cases j with
  | zero=>
   rw[bN]at f;cases f;rw[fQ,dE,br,<-o,dM]
  | succ j=>
   rw[cC]at f;rw[br,fB,show j*n+n=a.length+j*n by omega,<-cD,dG];exact k j (fun x f=>m x (aT _ f)) f (bJ.1 f).1
theorem Az4(es:List Me)(hj:j<es.length):Mj (es.map Me.cells).flatten (j*6) 6=some es[j].cells:=
 A4d (n:=6) (es.map Me.cells) j es[j].cells (fun y a=>by obtain⟨z,_,rfl⟩:=cY.1 a;rfl) (by rw[bA,aH hj];rfl)
def Aeu(es:List Me)(j:Int):Me × Int:=if 0<=j/\j<es.length then((es[j.toNat]?).getD (Me.nil 0),0)else(Me.nil 0,13)
theorem Ok.stA{z:List EV}(f:h.get i=some (.cells z t))(k:z.length=n)(a:xs.length=n)(m:Ok (kk (h.put i (.cells xs t))) Q):Ok (stE n (.ptr i 0) (.agg xs) h kk) Q:=
 Ok.st xs f rfl (by show Fl xs=n;rw[Bf,a]) (Bm (by show z.length=xs.length;rw[a,k])) m
theorem Tf{ll:Nat}(s:Sm g)(m:Lj h b ml ll g es)(hb:HB h)(j:Int):Ok (Hr K (.ptr b 0) (I j) h) fun v h'=>v=.tuple [.agg (Aeu es j).1.cells,I (Aeu es j).2]/\Ext h h':=by
 have:=s.b0;have:=s.b1;simp only[Hr,I,Aa,Ac];rw[show[EV.int .i64 0,.int .i64 0,.int .i64 0,.int .i64 0,.int .i64 0,.int .i64 0]=(Me.nil 0).cells from rfl];obtain⟨C,D,a,p,_⟩:=nW h (.cells (Me.nil 0).cells 53);rw[D];have f:=a.hb hb;have q:=a.at hb m.map;have E:=a.at hb m.row;have F:=f _ _ p;have st:∀(x:Me) (e:Int),Ok (stE 6 (.ptr h.next 0) (.agg x.cells) C fun o=>Ii TT [.c (.ptr h.next 0) 53,.v (.int .i64 e)] o) fun v h'=>v=.tuple [.agg x.cells,I e]/\Ext h h':=by
  intro x e;refine Ok.stA p rfl rfl ?_;rw[Ea (Ae _ _ _) A34.1 A34.2 rfl];exact .ret ⟨rfl,a.Ao (.inr (aD _)) F _⟩
 unfold Aeu;by_cases u:j<0
 ·have G:D6 (.tuple []) false=false/\D6 (.tuple []) true=false:=⟨rfl,rfl⟩
  simp only[u,aB,Aa,Ac,Acu];rw[Aw (l:=(Me.nil 0).cells) rfl,aM (by omega)];exact st _ 13
 simp only[u,aA,Aa,Ac];rw[Ah q rfl (v:=.slice ml 0 g.B.toNat g.B.toNat false) rfl];rw[show ∀k:EV->R,Hc (.slice ml 0 g.B.toNat g.B.toNat false) k=k (I g.B.toNat)from fun _=>rfl];simp only[I,Ac,Aa,Acu];have hlen:=m.len;by_cases J:j<g.B
 ·obtain⟨n,rfl⟩:=aZ (show 0<=j by omega)
  have A:n<es.length:=by omega
  have:decide ((n:Int)≥(g.B.toNat:Int))=false:=by simp;omega
  simp only[this,Aa,Am0];rw[Ah q rfl (v:=.slice ml 0 g.B.toNat g.B.toNat false) rfl,N5 (by omega),bF,Cn E rfl (Az4 es A),aQ (by omega)];rw[show(es[(n:Int).toNat]?).getD (Me.nil 0)=es[n] by rw[bG,aH A];rfl];exact st _ 0
 ·have:decide ((j:Int)≥(g.B.toNat:Int))=true:=by simp;omega
  simp only[this,Aa];rw[Aw (l:=(Me.nil 0).cells) rfl,aM (by omega)];exact st _ 13
def Aqk(g:Gm)(es:List Me)(z:Int):Int:=if 0<=z/\z<g.D*g.Z then Wq es z else 0
theorem A2z(n:Nat)(f:Int->Int)(hj:j<n):((List.range n).map fun(z:Nat)=>I (f z))[j]? = some (I (f j)):=by
 rw[bA,cQ hj];rfl
theorem Ail{ll:Nat}(m:Lj h b ml ll g es)(z:Int):Ld K (.ptr b 0) (I z) h=some (I (Aqk g es z),h):=by
 simp only[Ld,I,Aa,Ac];unfold Aqk;by_cases a:z<0
 ·simp only[a,aB,Aa,Ac,Aar]
  rw[aM (by omega)]
 simp only[a,aA,Aa,Ac];rw[Ah m.map rfl (v:=.slice ll 0 (g.D*g.Z).toNat (g.D*g.Z).toNat false) rfl];rw[show ∀k:EV->R,Hc (.slice ll 0 (g.D*g.Z).toNat (g.D*g.Z).toNat false) k=k (I (g.D*g.Z).toNat)from fun _=>rfl];simp only[I,Ac,Aa,Aar];by_cases f:z<g.D*g.Z
 ·obtain⟨n,rfl⟩:=aZ (show 0<=z by omega)
  have:decide ((n:Int)≥((g.D*g.Z).toNat:Int))=false:=by simp;omega
  simp only[this,Aa,Aky];rw[Ah m.map rfl (v:=.slice ll 0 (g.D*g.Z).toNat (g.D*g.Z).toNat false) rfl,N5 (by omega),bF,bk,Ah m.live rfl (A2z (g.D*g.Z).toNat (Wq es) (j:=n) (by omega)),aQ (by omega)]
 ·have:decide ((z:Int)≥((g.D*g.Z).toNat:Int))=true:=by simp;omega
  simp only[this,Aa];rw[aM (by omega)]
theorem A9b:∀(l l':List Int),l.length=l'.length->Ey (l.map I) (l'.map I)=some (decide (l=l'))
 | [],[],_=>rfl
 | a::l,b::l',h=>by
  have k:=A9b l l' (by simpa using h);rw[cR,cR];unfold Ey;rw[Aw9];by_cases f:a=b
  ·subst f
   rw[aJ rfl];simp only[k,List.cons.injEq,gF]
  ·rw[aK f]
   simp only[k];rw[aK fun y=>f (List.cons.inj y).1]
def Me.row(x:Me):List Int:=[x.state,x.An,x.Bt,x.off,x.seq,x.sum]
theorem Me.Bpp {y:Me}:x.row=y.row↔x=y:=by
 cases x;cases y;simp[Me.row]
theorem Bua(x y:Me)(k:EV->R):Ko Aj7 (bin TT .eql 53) (.agg x.cells) (.agg y.cells) k=k (.bool (decide (x=y))):=by
 have he:TT.eqs 53=some [0,0,0,0,0,0]:=by kernel_rfl
 have a:At4 TT 53 (.agg x.cells) (.agg y.cells)=some (decide (x=y)):=by
  show(match TT.eqs 53 with|some sh=>Ax (shaped sh x.cells) (Ey x.cells y.cells) none|none=>none)=_;rw[he];simp only;rw[show shaped [0,0,0,0,0,0] x.cells=true from rfl,Aj,show x.cells=x.row.map I from rfl,show y.cells=y.row.map I from rfl,A9b x.row y.row rfl];congr 1;rw[eS];exact Me.Bpp
 show oB k (match At4 TT 53 (.agg x.cells) (.agg y.cells)with|some b=>some (EV.bool b)|none=>none)=_;rw[a];rfl
theorem A92(hb:HB h)(k:x.state=1->Qu x.An/\Qu x.Bt):Ok (Iz K (.agg x.cells) (gV g) h) fun v h'=>v=.bool (meR g x)/\Ext h h':=by
 unfold meR;by_cases s1:x.state=1
 ·rw[aM (by omega),aQ s1]
  exact Asu hb s1 (k s1).1 (k s1).2
 ·simp only[Iz,gV,Aa]
  have f:Ext h ((h.new (.cells x.cells 53)).new (.cells (gL g) 23)):=(Au.new _ _).C8 _;have a:((h.new (.cells x.cells 53)).new (.cells (gL g) 23)).get h.next=some (.cells x.cells 53):=by
   rw[Ay _ (aR _)];exact Ad _ _
  generalize (h.new (.cells x.cells 53)).new (.cells (gL g) 23)=m at f a⊢;rw[Ah a rfl (v:=I x.state) rfl];simp only[I,Ac];have eq:∀s,x.state=s->Ok (Kj K (.ptr h.next 0) (.ptr (h.next+1) 0) (.int .i64 s) (.bool true) m) fun v h'=>v=.bool (decide (x=Me.nil x.state))/\Ext h h':=fun s hs=>by
   simp only[Kj,Aa];rw[Cy a rfl,Ak (n:=6) rfl]
   try simp only[Aa]
   rw[Ah a rfl (v:=I x.state) rfl]
   try simp only[Aa]
   rw[Aw (l:=(Me.nil x.state).cells) rfl,Bua];exact .ret ⟨rfl,f⟩
  by_cases h0:x.state=0
  ·rw[aQ (.inl h0)]
   simp only[h0,aB,Aa];have:=eq 0 h0;rw[h0]at this;exact this
  ·by_cases h2:x.state=2
   ·rw[aQ (.inr h2)]
    simp only[h2,show ¬((2:Int)=0) by decide,aA,aB,Aa];have:=eq 2 h2;rw[h2]at this;exact this
   ·rw[aM (by omega),aM s1]
    simp only[h0,s1,h2,aA,Aa,Kj,Ac,Ac8];exact .ret ⟨rfl,f⟩
theorem Bj3 {α:Type}(f:Nat->α)(n j:Nat)(v:α):((List.range n).map f).set j v=(List.range n).map fun z=>if z=j then v else f z:=by
 apply eE;intro i;rw[List.getElem?_set,bA,bA];by_cases a:i<n
 ·rw[cQ a]
  by_cases hj:j=i
  ·subst hj;simp[a]
  ·simp[hj,cT hj]
 ·rw[cF (by simpa using a)]
  simp only[bZ,eP];split
  ·rw[aM (by omega)];rfl
  ·rfl
theorem Bnd(h:meR g x=true)(f:x.state=1):(0<=x.An/\x.An<g.D*g.Z)/\(0<=x.Bt/\x.Bt<g.D*g.Z)/\¬x.An=x.Bt:=by
 unfold meR at h;rw[aM (by omega),aQ f]at h;unfold meB Y6 at h;simp only[bL,N4,bM]at h;obtain⟨⟨_,⟨a,b⟩,_⟩,⟨_,⟨c,d⟩,_⟩,e,_⟩:=h;exact⟨⟨a,by omega⟩,⟨c,by omega⟩,fun y=>e (by rw[y])⟩
def Bhr(f:Int->Int)(z v:Int):Int->Int:=fun y=>if y=z then v else f y
theorem Bfr(n:Nat)(f:Int->Int)(j:Nat)(v:Int):((List.range n).map fun(z:Nat)=>I (f z)).set j (I v)=(List.range n).map fun(z:Nat)=>I (Bhr f j v z):=by
 rw[Bj3];congr 1;funext z;unfold Bhr;by_cases h:z=j
 ·rw[aQ h,aQ (by omega)]
 ·rw[aM h,aM (by omega)]
theorem Ba6{ll:Nat}(hn:g.D*g.Z=n)(W:n<=512)(hm:h.get b=some (.cells (gL g++[.slice ml 0 g.B.toNat g.B.toNat false,.slice ll 0 n n false]) 143)){f:Int->Int}(U:h.get ll=some (.cells ((List.range n).map fun(z:Nat)=>I (f z)) 3))(hb:HB h)(X:meR g x=true){by':Int}(Y:by'=1\/by' = -1)(bd:∀z,-1000<=f z/\f z<=1000):
 Ok (Sr K (.ptr b 0) (.agg x.cells) (I by') h) fun v h'=>v=.tuple []/\h'.get ll=some (.cells ((List.range n).map fun(z:Nat)=>I (f z+by'*Ajl z x)) 3)/\Au (fun i=>i=ll) h h'/\HB h':=by
 simp only[Sr,Aa];obtain⟨C,e_,E,J,_⟩:=nW h (.cells x.cells 53);rw[e_];have m:=E.hb hb;have L:=E.at hb hm;have F:=E.at hb U;rw[Ah J rfl (v:=I x.state) rfl];simp only[I,Ac];by_cases s1:x.state=1
 ·obtain⟨⟨a0,a1⟩,⟨c0,c1⟩,ne⟩:=Bnd X s1
  obtain⟨j,hj⟩:=aZ a0;obtain⟨k,V⟩:=aZ c0;have M:=m _ _ L;have O:=m _ _ J;have o:=m _ _ F;have B1:=bd j;have B2:=bd k;simp only[s1,aB,Aa,Ar];rw[Gy M,Ah L rfl (v:=.slice ll 0 n n false) rfl]
  try simp only[Aa,Ar]
  rw[Gy O,Ah J rfl (v:=I x.An) rfl,hj]
  try simp only[I,Aa,Ar]
  rw[N5 (by omega),bF,bk,Gy o,Ah F rfl (A2z n f (j:=j) (by omega))];simp only[I,Ac,Ar];rw[Cg,N5 (by omega),bF,bk,Gh];refine Ok.st1 F rfl rfl (by simp;omega) ?_;have p:(C.put ll (.cells (((List.range n).map fun(z:Nat)=>I (f z)).set j (I (f j+by'))) 3)).get ll=some (.cells ((List.range n).map fun(z:Nat)=>I (Bhr f j (f j+by') z)) 3):=by rw[Ae,Bfr]
  have G:Au (fun i=>i=ll) C (C.put ll (.cells (((List.range n).map fun(z:Nat)=>I (f z)).set j (I (f j+by'))) 3)):=(Au.refl (S:=fun i=>i=ll) C).Ao (.inl rfl) o _;have nb:b≠ll:=Ba L F (by intro y;injection y with _ y;cases y);have n4:h.next≠ll:=fun y=>by have:=hb _ _ U;omega
  have u:=G.at m L nb;have A:=G.at m J n4;rw[show EV.int .i64 (f j+by')=I (f j+by')from rfl];generalize C.put ll (.cells (((List.range n).map fun(z:Nat)=>I (f z)).set j (I (f j+by'))) 3)=h2 at p G u A⊢;have q:=G.hb m;have M:=q _ _ u;have O:=q _ _ A;have o:=q _ _ p;have nk:¬(k:Int)=j:=by omega
  have fk:Bhr f j (f j+by') k=f k:=by unfold Bhr;rw[aM nk]
  try simp only[Ar]
  rw[Gy M,Ah u rfl (v:=.slice ll 0 n n false) rfl]
  try simp only[Aa,Ar]
  rw[Gy O,Ah A rfl (v:=I x.Bt) rfl,V]
  try simp only[I,Aa,Ar]
  rw[N5 (by omega),bF,bk,Gy o,Ah p rfl (A2z n _ (j:=k) (by omega)),fk];simp only[I,Ac,Ar];rw[Cg,N5 (by omega),bF,bk,Gh];refine Ok.st1 p rfl rfl (by simp;omega) ?_;refine .ret ⟨rfl,?_,(E.to.trans G).Ao (.inl rfl) o _,q.put o _⟩;rw[Ae];have:(EV.int .i64 (f k+by'))=I (f k+by'):=rfl;rw[this,Bfr];congr 2;apply cZ;intro z _;congr 1;unfold Bhr Ajl;rw[s1,hj,V];by_cases e1:(z:Int)=k
  ·rw[aQ e1,aQ ⟨rfl,.inr e1.symm⟩,e1];omega
  ·rw[aM e1]
   by_cases e2:(z:Int)=j
   ·rw[aQ e2,aQ ⟨rfl,.inl e2.symm⟩,e2];omega
   ·rw[aM e2,aM (fun y=>y.2.elim (fun a=>e2 a.symm) fun a=>e1 a.symm)];omega
 ·simp only[s1,aA,Aa]
  refine .ret ⟨rfl,?_,E.to,m⟩;rw[F];congr 2;apply cZ;intro z _;unfold Ajl;rw[aM (fun y=>s1 y.1),Int.mul_zero,Int.add_zero]
def Bqo(g:Gm)(es:List Me)(j:Int)(x:Me):List Me × Int:=if 0<=j/\j<es.length then(if meR g x=true then(es.set j.toNat x,0)else(es,10))else(es,13)
theorem A1u{ll:Nat}(s:Sm g)(m:Lj h b ml ll g es)(hb:HB h)(hz:x.state=1->Qu x.An/\Qu x.Bt)(j:Int):
 Ok (Jc K (.ptr b 0) (I j) (.agg x.cells) h) fun v h'=>v=I (Bqo g es j x).2/\Lj h' b ml ll g (Bqo g es j x).1/\Au (fun i=>i=ml\/i=ll) h h'/\HB h':=by
 have:=s.b0;have:=s.b1;have:=s.d0;have:=s.d1;have:=s.z0;have:=s.z1;obtain⟨m0,m1⟩:=N3 (a:=g.D) (b:=g.Z) (A:=8) (B:=64) (by omega) (by omega) (by omega) (by omega);simp only[Jc,Aa];obtain⟨h1,e_,x1,g5,_⟩:=nW h (.cells x.cells 53);rw[e_];have J:=x1.hb hb;have M1:=m.ext fun i o q=>x1.at hb q
 refine(Tf (K:=K) s M1 J j).Am ?_;rintro _ h2 ⟨rfl,x2⟩;have V:=x2.hb J;simp only[Aa];refine Ok.stA (Ad _ _) rfl rfl ?_;obtain⟨h3,e_,x3,g7,_⟩:=nP h2 (.cells [EV.int .i64 0,.int .i64 0,.int .i64 0,.int .i64 0,.int .i64 0,.int .i64 0] 53) (.cells (Aeu es j).1.cells 53);rw[e_];have u:=x3.hb V;have L:Ext h h3:=(x1.trans x2).trans x3;have M3:=m.ext fun i o q=>L.at hb q
 have M:=x3.at V (x2.at J g5);unfold Bqo;have hlen:=m.len;by_cases hj:0<=j/\j<es.length
 ·obtain⟨k,rfl⟩:=aZ hj.1
  have hk:k<es.length:=by omega
  have eg:Aeu es (k:Int)=(es[k],0):=by
   unfold Aeu;rw[aQ hj,bG,aH hk];rfl
  rw[eg]at g7⊢;rw[aQ hj];simp only[I,Ac,aC,aA,Aa,Ar];have l5:=u _ _ M;have lb:=u _ _ M3.map;rw[Gy l5,Cy M rfl,Ak (n:=6) rfl]
  try simp only[Aa,Ar]
  rw[Gy lb,Cn M3.map rfl (show Mj (gL g++[.slice ml 0 g.B.toNat g.B.toNat false,.slice ll 0 (g.D*g.Z).toNat (g.D*g.Z).toNat false]) 0 6=some (gL g)from rfl)]
  try simp only[Aa,Ar]
  rw[show EV.agg (gL g)=gV g from rfl];refine Ok.bE (A92 (K:=K) (g:=g) (x:=x) (Da u) hz) (fun _ _ p=>p.2) ?_;rintro _ b8 h4 ⟨rfl,_⟩ _ x4;have E:=x4.hb u;have O:Ext h h4:=L.trans x4;have F:=m.ext fun i o q=>O.at hb q
  by_cases W:meR g x=true
  ·rw[aQ W,W]
   simp only[Aa,Anf];have aw:=x4.at u g7;have ax:=x4.at u M;rw[Cy aw rfl,Ak (n:=6) rfl]
   try simp only[Aa]
   have hn:g.D*g.Z=((g.D*g.Z).toNat:Int):=by omega
   have bd:∀z,-1000<=Wq es z/\Wq es z<=1000:=fun z=>by have:=Aux z es;omega
   refine(Ba6 (K:=K) (ml:=ml) hn (by omega) F.map F.live E (x:=es[k]) (m.ok _ (av hk)) (by':=-1) (.inr rfl) bd).Am ?_;rintro _ h5 ⟨rfl,ay,c5,G⟩;have nb:b≠ll:=Ba F.map F.live (by intro y;injection y with _ y;cases y);have nm:ml≠ll:=Ba F.row F.live (by intro y;injection y with _ y;cases y);have a1:b≠ml:=Ba F.map F.row (by intro y;injection y with _ y;cases y);have X:h.next≠ll:=fun y=>by have:=hb _ _ m.live;omega
   have ca:h.next≠ml:=fun y=>by have:=hb _ _ m.row;omega
   have Y:=c5.at E F.map nb;have a2:=c5.at E F.row nm;have aa:=c5.at E ax X;rw[Cy aa rfl,Ak (n:=6) rfl]
   try simp only[Aa]
   refine(Ba6 (K:=K) (ml:=ml) hn (by omega) Y ay G (x:=x) W (f:=fun z=>Wq es z + -1*Ajl z es[k]) (by':=1) (.inl rfl) (fun z=>by
    show -1000<=Wq es z + -1*Ajl z es[k]/\Wq es z + -1*Ajl z es[k]<=1000;have:=Aux z es;have:=Bgo z es[k];omega)).Am ?_
   rintro _ h6 ⟨rfl,a6,c6,C⟩;have U:=c6.at G Y nb;have ab:=c6.at G a2 nm;have ad:=c6.at G aa X;have a7:=C _ _ U;have a8:=C _ _ ad;have bb:=C _ _ ab
   try simp only[Ar]
   rw[Gy a7,Ah U rfl (v:=.slice ml 0 g.B.toNat g.B.toNat false) rfl]
   try simp only[Aa,Ar]
   rw[Gy a8,Cy ad rfl,Ak (n:=6) rfl]
   try simp only[Aa,Ar]
   rw[N5 (by omega),bF,Gh];have fs:Mh (es.map Me.cells).flatten (k*6) x.cells=some ((es.set k x).map Me.cells).flatten:=by
    rw[A41 (n:=6) (fun y hy=>by obtain⟨z,_,rfl⟩:=cY.1 hy;rfl) (by rw[bZ];exact hk) rfl,List.map_set]
   refine Ok.st _ ab rfl rfl fs ?_;have c7:Au (fun i=>i=ml) h6 (h6.put ml (.cells ((es.set k x).map Me.cells).flatten 53)):=(Au.refl (S:=fun i=>i=ml) h6).Ao (.inl rfl) bb _;have bj:=c7.at C U a1;have bn:=c7.at C a6 (cT nm);refine .ret ⟨rfl,⟨bj,Ae _ _ _,?_,by rw[bV];exact hlen,fun y hy=>?_⟩,?_,c7.hb C⟩
   ·rw[bn]
    congr 2;apply cZ;intro z _;rw[bG,A48 z x es k hk];congr 1;omega
   ·rcases dH hy with y'|rfl
    ·exact m.ok _ y'
    ·exact W
   ·exact(Ext.to O).trans (((c5.mono fun i e=>.inr e).trans (c6.mono fun i e=>.inr e)).trans (c7.mono fun i e=>.inl e))
  ·have bo:meR g x=false:=by cases h:meR g x<;>simp_all
   rw[aM W,bo];simp only[Aa];exact .ret ⟨rfl,F,O.to,E⟩
 ·have eg:Aeu es j=(Me.nil 0,13):=by unfold Aeu;rw[aM hj]
  rw[eg,aM hj];simp only[I,Ac,show ¬((13:Int)=0) by decide,aF,aB,Aa];exact .ret ⟨rfl,M3,L.to,u⟩
theorem A35{z q:Nat}{size:Int}{Z:Zn}(f:E2 h z q size Z)(hb:HB h):
 Ok (Gp K (.ptr z 0) h) fun v h'=>v=I (Lm Z.st)/\E2 h' z q size (if Lm Z.st=0 then Zn.empty else Z)/\Au (fun i=>i=z) h h'/\HB h':=by
 obtain⟨s,g,r⟩:=f.An;have a:=hb _ _ g;simp only[Gp,Yi f,Aa,I,Ac];by_cases k:Lm Z.st=0
 ·simp only[k,aC,aA,Aa,bI,Of]
  refine Ok.st1 g rfl rfl (by show 0<5;decide) ?_;refine Ok.st1 (Ae _ _ _) rfl rfl (by show 2<5;decide) ?_;refine Ok.st1 (Ae _ _ _) rfl rfl (by show 3<5;decide) ?_;refine Ok.st1 (Ae _ _ _) rfl rfl (by show 4<5;decide) ?_;refine .ret ⟨rfl,⟨⟨.Al,Ae _ _ _,Cc.nil _ _ _ _⟩,fun x m=>by cases m⟩,((((Au.refl (S:=fun i=>i=z) h).Ao (.inl rfl) a _).Ao (.inl rfl) a _).Ao (.inl rfl) a _).Ao (.inl rfl) a _,(((hb.put a _).put a _).put a _).put a _⟩
 ·simp only[k,aF,aB,Aa,aY]
  exact .ret ⟨rfl,f,Au.refl _,hb⟩
noncomputable def Dv.reset(D:Dv)(i:Int):Dv × Int:=
 if D.Et i≠0 then(D,D.Et i)else
 (if Lm (D.zs i.toNat).st=0 then D.tick.set i.toNat Zn.empty else D.tick,Lm (D.zs i.toNat).st)
theorem Zn.Wf.empty {size:Nat}(h:0<size):Zn.empty.Wf size:=⟨fun x a=>(by cases a),by show 0<=4;omega,aD _,cU _,fun _=>h⟩
theorem A66{V:Nat}{D:Dv}{F:Nat->Prop}(d:G6 h V D F)(hb:HB h)(hs:0<D.size)(i:Int):
 Ok (Rm K (.ptr V 0) (I i) h) fun v h'=>v=I (D.reset i).2/\G6 h' V (D.reset i).1 (Bi F h h')/\Au F h h'/\HB h':=by
 simp only[Rm,dr];refine(Ae4 (K:=K) d hb i).Am ?_;rintro _ h2 ⟨rfl,d2,c2,o,L⟩;unfold Dv.reset;by_cases f:D.Et i=0
 ·rw[aM (by rw[f];exact fun y=>y rfl),f]
  have u:D.begin i=D.tick:=by unfold Dv.begin;rw[aQ f]
  rw[u]at d2;obtain⟨j,rfl,hj⟩:=Dv.A16 f;obtain⟨zl,z,q,a,b⟩:=d2.Mn;obtain⟨B,C⟩:=a.A81 (j:=j) hj;simp only[I,Ac,aC,aA,Aa,Abe,a.list,B,C];refine(A35 (K:=K) (a.An j hj) o).Am ?_;rintro _ E ⟨rfl,A,c3,p⟩
  try simp only[Aa]
  rw[show(j:Int).toNat=j from rfl];have A:E2 E (z j) (q j) D.size (if Lm (D.zs j).st=0 then Zn.empty else D.zs j):=A;by_cases G:Lm (D.zs j).st=0
  ·simp only[G,bI]at A⊢
   obtain⟨d3,m⟩:=G6.An d2.wf a b d2.lt o hj (Zn.Wf.empty hs) A (c3.mono fun _=>.inl) p (fun y=>absurd rfl y);refine .ret ⟨by rw[show Lm (D.tick.zs j).st=Lm (D.zs j).st from rfl,G],d3.mono (fun i J=>?_) (Bi.lt d.lt (c2.trans m).next),c2.trans m,p⟩;rcases J with y|y
   ·exact .inl y
   ·exact .inr ⟨bQ c2.next y.1,y.2⟩
  ·simp only[G,aY]at A⊢
   obtain⟨d3,m⟩:=G6.An d2.wf a b d2.lt o hj (d2.wf.zs j hj) A (c3.mono fun _=>.inl) p (fun y=>.inr ⟨rfl,y⟩);have e:D.tick.set j (D.zs j)=D.tick:=by
    unfold Dv.set;have:Aju D.tick.zs j (D.zs j)=D.tick.zs:=by funext k;unfold Aju;split<;>simp_all [Dv.tick]
    rw[this]
   have d3:G6 E V (D.tick.set j (D.zs j)) (Bi F h2 E):=d3;rw[e]at d3;refine .ret ⟨rfl,d3.mono (fun i J=>?_) (Bi.lt d.lt (c2.trans m).next),c2.trans m,p⟩;rcases J with y|y
   ·exact .inl y
   ·exact .inr ⟨bQ c2.next y.1,y.2⟩
 ·rw[aQ f]
  have u:D.begin i=D:=by unfold Dv.begin;rw[aM f]
  rw[u]at d2;simp only[I,Ac,f,aF,aB,Aa];exact .ret ⟨rfl,d2.grow d.lt c2.next,c2,o⟩
noncomputable def Kx.reset(S:Kx)(i:Int):Kx × Int:=({ S.begin i with dv:=((S.begin i).dv.reset i).1 },((S.begin i).dv.reset i).2)
theorem A8a(H:Bw disp)(L:1000<K)(hd:14<=d){D:Nat}{S:Kx}{G:Nat->Prop}(f:A67 disp K S)(s:Fh h D S G)(hb:HB h)(i:Int)(hs:0<(S.begin i).dv.size):
 Ok (Ag TT disp K d false 196 [.ptr D 0,I i] h) fun v h'=>v=I (S.reset i).2/\Fh h' D (S.reset i).1 (Bi G h h')/\Au G h h'/\HB h':=by
 obtain⟨e,rfl⟩:∃k,d=k+1:=⟨d-1,by omega⟩;rw[Aov H (by omega)];simp only[Alf,dr];refine(Aey (K:=K) H (by omega) f s hb i).Am ?_;rintro _ h2 ⟨s2,c2,m⟩;unfold Kx.reset;generalize S.begin i=T at s2 hs⊢;obtain⟨V,M,qc,qh,cs,A,ms,F,a⟩:=s2.Mn;simp only[Aa,Cz a.Dd rfl];refine(A66 (K:=K) a.dev m hs i).Am ?_;rintro _ B ⟨rfl,d3,c3,o⟩;obtain⟨C,p⟩:=s2.put a m d3 c3;have u:=C.Bki c2.next p.next s.lt
 have c4:=c2.grow p;simp only[I,Ac];by_cases he:(T.dv.reset i).2=0
 ·simp only[he,aB,Aa,Yw]
  have E:(T.dv.reset i).1.size<=64:=d3.wf.size;refine(Bba (K:=K) i K 0 B (by show(T.dv.reset i).1.size-0<K;omega) u o).Am ?_;rintro _ O ⟨J,c5,q⟩;simp only[Uf,dr];refine .ret ⟨by rw[<-he],J.mono (fun j hj=>Bi.le c5.next hj) (Bi.lt s.lt (bQ c4.next c5.next)),c4.grow c5,q⟩
 ·simp only[he,aA,Aa,Uf]
  exact .ret ⟨rfl,u,c4,o⟩
theorem Ok.Bu0{s:DX}{call:Ab->R}{k:EV->Ab->DX->R}{P:EV->Ab->Prop}(hb:Aby b s=true)(A:Ok (call (H4 b s h)) P)(he:∀v a,P v a->Ext (H4 b s h) a)
 (B:∀v a h2,P v a->(∀i,h2.get i=if i∈loose b s.nw then h.get i else a.get i)->h2.next=a.next->Ext h h2->Ok (k v h2 (s.big i)) Q):Ok (Ev.Js i b s h call k) Q:=by
 obtain⟨v,a,e,p⟩:=A;have x:=he v a p;have hm:h.next<=a.mw:=x.mw h.next (aD _) (aD _) fun _ y=>y.elim
 have u:∀j,(H4 b s h).get j=if j∈loose b s.nw then none else h.get j:=fun j=>by rw[Ab6];exact(Aua _ _ _).trans (by rw[Ab6])
 have C:Ev.Js i b s h call k=k v ⟨Ac3 h.t a.t (loose b s.nw),a.next,h.mw⟩ (s.big i):=by
  show Ax (Aby b s) (Ev.Am (call (H4 b s h)) fun v h'=>L9 i b s h h' fun s h=>k v h s) none=_;rw[hb,Aj,e];show L9 i b s h a (fun s h=>k v h s)=_;unfold L9;rw[aO hm,Aj]
 rw[C];have m:∀j,(⟨Ac3 h.t a.t (loose b s.nw),a.next,h.mw⟩:Ab).get j=if j∈loose b s.nw then h.get j else a.get j:=fun j=>by
  rw[Ab6];exact(Aue _ _ _ _).trans (by rw[Ab6,Ab6])
 refine B v a _ p m rfl ⟨fun j hj D=>?_,x.next,fun w w1 _ _=>w1,fun y q o f=>?_⟩
 ·rw[m]
  split
  ·rfl
  ·rename_i E
   rw[x.get j hj D,u,aM E]
 ·rw[m]at f
  split at f
  ·exact aN (y q o f) x.next
  ·exact x.hb (fun q o f=>by
    rw[u]at f;split at f
    ·cases f
    ·exact y q o f) q o f
theorem Avl {z:List EV}(a:n<=65536)(h:Ab):Vs z e (I n) (I n) h=some (.slice h.next 0 n n false,h.new (.cells (rep z n) e)):=by
 show Ax (Nat.ble n n) (Ax (Nat.ble n 65536) _ none) none=_;rw[aO (aD _),Aj,aO a,Aj]
theorem Awd:∀(Cv new:List EV),new.length<=Cv.length->Jf Cv new=some (new++Cv.drop new.length)
 | Cv,[],_=>by cases Cv<;>rfl
 | [],b::r,h=>by simp at h
 | a::Cv,b::r,h=>by
  show(match Jf Cv r with|some x=>some (b::x)|none=>none)=_;rw[Awd Cv r (by simpa using h)];rfl
theorem Bip{m r:Nat}{op:Bool}{t:TypeId}{Cv new:List EV}(g:h.get i=some (.cells Cv t))(k:lenOf y=some n)(p:0<n)(hm:n<=m)(f:O8 h 1 n y=some new)(o:new.length=n)(q:Cv.length=m):
 builtin TT .copy #[184,184] [.slice i 0 m r op,y] h=some (I n,h.put i (.cells (new++Cv.drop n) t)):=by
 have hu:TT.T8 184=some (.slice 5):=by kernel_rfl
 have hs:TT.size 5=some 1:=by kernel_rfl
 have hb:Nat.ble n m=true:=aO hm;have h0:Nat.beq n 0=false:=by cases n with|zero=>omega|succ n=>rfl
 have hw:Mc h i 0 new=some (h.put i (.cells (new++Cv.drop n) t)):=by
  unfold Mc;rw[g];simp only;have:Fm Cv 0 new=Jf Cv new:=by cases Cv<;>rfl
  rw[this,Awd Cv new (by omega),o]
 rw[Ara]at f;have a:lenOf (.slice i 0 m r op)=some m:=rfl;unfold builtin;simp only[hu,hs,a,k,hb,Aj,h0,Bc,f,hw];rfl
structure Bmq(h:Ab)(P t:Nat)(out:List Nat)(S:Nat->Prop):Prop where
 Mn:∃s q,h.get P=some (.cells [s,.bool false] t)/\Cc h s q 5 1 out.length (Bk out)/\(0<out.length->P≠q/\S q)
 own:S P
theorem Bg2 {w:Nat}{a:Nat}(B:a<9223372036854775808)(hw:w<=7){out:List Nat}(C:out.length<=60000)(h0:Ab)(hS:∀i,h0.next<=i->S i):∀(m i:Nat) (h:Ab),w-i<m->i<=w->HB h->Au S h0 h->Bmq h P t (out++U2 i a) S ->
 Ok (I7 K m (.ptr P 0) (Nk .i64 (a/256^i)) (I w) (I i) h) fun _ h'=>Bmq h' P t (out++U2 w a) S/\Au S h0 h'/\HB h':=by
 intro m;induction m with
 | zero=>intro i h hm;omega
 | succ m u=>
  intro i h hm D hb c p;obtain⟨s,q,g,r,l⟩:=p.Mn;simp only[I7,I,Ac,Aa];by_cases f:(i:Int)<w
  ·simp only[f,aB,Aa,Aah,Cz g rfl]
   rw[wrap_u8];have hlen:(out++U2 i a).length=out.length+i:=by rw[aG,Hq]
   refine L0 (z:=[.int .u8 0]) r hb rfl rfl rfl (by omega) (by omega) ?_;intro h2 A E c2;have k:=c2.at hb g fun y=>(l y.1).1 y.2
   have o:=(c2.hb hb) _ _ k;refine Ok.st1 k rfl rfl (by show 0<2;decide) ?_;rw[Aqv];simp only[Aai,I,Ac];rw[Cg,eV,<-dU];have c3:Au S h (h2.put P (.cells ([s,EV.bool false].set 0 (.slice (h.next+1) 0 ((out++U2 i a).length+1) ((out++U2 i a).length+1) true)) t)):=(c2.mono fun j hj=>hj.2▸(l hj.1).2).Ao (.inl p.own) o _;refine u (i+1) _ (by omega) (by omega) ((c2.hb hb).put o _) (c.trans c3) ?_;rw[A2b,<-b9];have lt:=hb _ _ g;refine⟨⟨_,h.next+1,Ae _ _ _,?_,fun _=>⟨by omega,hS _ (by have:=c.next;omega)⟩⟩,p.own⟩;have e1:((out++U2 i a)++[a/256^i%256]).length=(out++U2 i a).length+1:=by rw[aG];rfl
   have e2:Bk ((out++U2 i a)++[a/256^i%256])=Bk (out++U2 i a)++EV.cells (Nk .u8 (a/256^i%256)):=by rw[Awq];rfl
   rw[e1,e2];exact A.frame fun _=>Af _
  ·have:i=w:=by omega
   subst this;simp only[f,aA,Aa];exact .ret ⟨p,c,hb⟩
def Aji(h:Ab)(P n:Nat)(S:Nat->Prop):Prop:=∃out,Bmq h P 350 out S/\out.length=n/\∀b∈out,b<256
theorem Aji.chg(p:Aji h P n S)(hb:HB h)(c:Au T h h')(no:∀i,S i->i<h.next->¬T i):Aji h' P n S:=by
 obtain⟨out,⟨⟨s,q,g,r,l⟩,o⟩,b⟩:=p;exact⟨out,⟨⟨s,q,c.at hb g (no _ o (hb _ _ g)),r.frame fun y=>c.get _ (hb _ _ (r.block y)) (no _ (l y).2 (hb _ _ (r.block y))),l⟩,o⟩,b⟩
theorem Aji.mono(p:Aji h P n S)(s:∀i,S i->T i):Aji h P n T:=by
 obtain⟨out,⟨⟨e,q,g,r,l⟩,o⟩,b⟩:=p;exact⟨out,⟨⟨e,q,g,r,fun y=>⟨(l y).1,s _ (l y).2⟩⟩,s _ o⟩,b⟩
def Bss(S:Nat->Prop)(h:Ab):Nat->Prop:=fun i=>S i\/h.next<=i
theorem Bkg {w:Nat}(A:1000<K)(p:Aji h P n S)(hb:HB h)(E:n<=1000)(B:1<=w)(o:w<=7)(v0:0<=v)(F:v<=9223372036854775807)(G:v<(256^w:Nat)):
 Ok (Ee K (.ptr P 0) (.int .i64 w) (.int .i64 v) h) fun _ h'=>Aji h' P (n+w) (Bss S h)/\Au S h h'/\HB h':=by
 obtain⟨out,p,C,hu⟩:=p.mono (T:=Bss S h) fun i=>.inl
 obtain⟨a,rfl⟩:=aZ v0;have k:a<9223372036854775808:=by omega
 have q:=(A42 k B o).2 (by omega);simp only[Ee,dr];have u:=Acq (K:=K) (w:Int) h;simp only[I]at u;rw[u,aJ ⟨by omega,by omega⟩];simp only[Aa,Ac];have wp:=A5u (K:=K) k A h;rw[show(EV.int .i64 (a:Int))=.int .i64 (Int.ofNat a)from rfl,wp,Ap];simp only[Nk,Ac];rw[show decide ((w:Int)<Int.ofNat (Af2 a))=false from aK (by show ¬(w:Int)<((Af2 a:Nat):Int);omega)];simp only[Aa,Pb,Aan];have:=Bg2 (K:=K) (P:=P) (t:=350) (w:=w) k o (out:=out) (by omega) (S:=Bss S h) h (fun i=>.inr) K 0 h (by omega) (cU _) hb (Au.refl _) (by simpa [U2]using p);rw[Nat.pow_zero,Nat.div_one]at this;refine this.mono ?_;rintro _ h' ⟨D,c,m⟩;exact⟨⟨_,D,by rw[aG,Hq,C],fun b hb=>by
  rcases bP.1 hb with y|y
  ·exact hu b y
  ·exact Z6 _ _ b y⟩,⟨fun i f hs=>c.get i f fun y=>by
   rcases y with y|y
   ·exact hs y
   ·omega,c.next,fun w1 e1 e2 e3=>c.mw w1 e1 e2 fun i f=>by
   rcases f with f|f
   ·exact e3 i f
   ·omega,c.hb⟩,m⟩
theorem A9s(o:S h.next):Aji (h.new (.cells [.Al,.bool false] 350)) h.next 0 S:=⟨[],⟨⟨.Al,0,Ad _ _,Cc.nil _ _ _ _,fun y=>absurd y (bS _)⟩,o⟩,rfl,fun b hb=>by cases hb⟩
def Ats(v:EV):Prop:=∃l:List Nat,v=.agg (Bk l)/\l.length=44/\∀b∈l,b<256
theorem Auw(p:Aji h P n S)(hb:HB h)(h0:0<n)(X:n<=44):Ok (Aki K (.ptr P 0) h) fun v h'=>Ats v/\Ext h h'/\HB h':=by
 obtain⟨out,a,E,hu⟩:=p;simp only[Aki,Aa];rw[show(h.new (.cells (List.replicate 44 (EV.int .u8 0)) 245)).next=h.next+1 from rfl];have u:Ext h ((h.new (.cells (List.replicate 44 (EV.int .u8 0)) 245)).new (.cells (List.replicate 44 (EV.int .u8 0)) 245)):=(Au.new _ _).C8 _;have F:((h.new (.cells (List.replicate 44 (EV.int .u8 0)) 245)).new (.cells (List.replicate 44 (EV.int .u8 0)) 245)).get h.next=some (.cells (List.replicate 44 (EV.int .u8 0)) 245):=by
  rw[Ay _ (aR _)];exact Ad _ _
 have A:((h.new (.cells (List.replicate 44 (EV.int .u8 0)) 245)).new (.cells (List.replicate 44 (EV.int .u8 0)) 245)).get (h.next+1)=some (.cells (List.replicate 44 (EV.int .u8 0)) 245):=Ad _ _;generalize (h.new (.cells (List.replicate 44 (EV.int .u8 0)) 245)).new (.cells (List.replicate 44 (EV.int .u8 0)) 245)=h1 at u F A⊢;have f:=u.hb hb;obtain⟨⟨s,q,g,r,l⟩,_⟩:=a;refine(Ax9 (K:=K) (u.at hb g) (r.frame fun y=>u.get _ (hb _ _ (r.block y)) id) f (by omega)).Am ?_;rintro _ h2 ⟨y,q',rfl,Y,G,J,lq⟩;have F:=G.at f F;have A:=G.at f A;simp only[Aa];rw[show ∀k:EV->R,Nv 44 1 (.ptr (h.next+1) 0) none none none k=k (.slice (h.next+1) 0 44 44 false)from fun k=>rfl];have B:=Y.bs (by omega);have L:=Bip (h:=h2) (i:=h.next+1) (n:=n) (m:=44) (r:=44) (op:=false) (t:=245) (Cv:=List.replicate 44 (EV.int .u8 0)) A (by rw[<-E];exact B.len) h0 X (by rw[<-E];exact B.cells) (by rw[Bg,E]) (by simp);rw[L,Ap];have Z:=J _ _ A;have ee:Bk out++(List.replicate 44 (EV.int .u8 0)).drop n=Bk (out++List.replicate (44-n) 0):=by
  rw[Awq,List.drop_replicate];unfold Bk;rw[fT];rfl
 rw[ee];have o:(out++List.replicate (44-n) 0).length=44:=by rw[aG,bT,E];omega
 have C:∀b∈out++List.replicate (44-n) 0,b<256:=fun b hb=>by
  rcases bP.1 hb with y|y
  ·exact hu b y
  ·rw[bc y];decide
 generalize out++List.replicate (44-n) 0=l at o C⊢;have V:(h2.put (h.next+1) (.cells (Bk l) 245)).get (h.next+1)=some (.cells (Bk l) 245):=Ae _ _ _;have M:(h2.put (h.next+1) (.cells (Bk l) 245)).get h.next=some (.cells (List.replicate 44 (EV.int .u8 0)) 245):=by rw[Af _];exact F
 have O:=u.trans G;have U:=O.Ao (i:=h.next+1) (.inr (by omega)) Z (.cells (Bk l) 245);generalize h2.put (h.next+1) (.cells (Bk l) 245)=h5 at V M U⊢;have D:=U.hb hb;have ul:(Bk l).length=44:=by rw[Bg,o]
 rw[Cy V rfl,Ak ul];simp only[Gr];have W:=D _ _ M;refine Ok.st (Bk l) M rfl (by show Fl (Bk l)=44;rw[Bf,ul]) (Bm (by show(List.replicate 44 (EV.int .u8 0)).length=(Bk l).length;rw[ul,bT])) ?_;rw[Qo (Ae _ _ _) A4e.1 A4e.2 ul];exact .ret ⟨⟨l,rfl,o,C⟩,U.Ao (.inr (aD _)) W _,D.put W _⟩
theorem Ba3{z:List EV}{v:EV}(k:Ats v)(a:h.get i=some (.cells z 245))(m:z.length=44)(x:Ext h0 h)(hb:HB h)(o:h0.next<=i):Ok (stE 44 (.ptr i 0) v h fun h=>Ii TT [.c (.ptr i 0) 245] h) fun v h'=>Ats v/\Ext h0 h'/\HB h':=by
 obtain⟨l,rfl,f,hu⟩:=k;have ul:(Bk l).length=44:=by rw[Bg,f]
 have lt:=hb _ _ a;refine Ok.st (Bk l) a rfl (by show Fl (Bk l)=44;rw[Bf,ul]) (Bm (by show z.length=(Bk l).length;rw[ul,m])) ?_;rw[Qo (Ae _ _ _) A4e.1 A4e.2 ul];exact .ret ⟨⟨l,rfl,f,hu⟩,x.Ao (.inr o) lt _,hb.put lt _⟩
theorem Alx:∀(l:List (List EV)) (j:Nat) (x:List EV),(∀x∈l,x.length=n)->l[j]? = some x->Mj l.flatten (j*n) n=some x:=by
 have len:∀l:List (List EV),(∀x∈l,x.length=n)->l.flatten.length=l.length*n:=fun l=>by
  induction l with
  | nil=>intro _;simp
  | cons a r k=>intro h;rw[br,aG,h a (aV ..),k fun x f=>h x (aT _ f),bK,fB];omega
 intro l j x m f;have hj:=(bJ.1 f).1;rw[E6 (by rw[len l m];have:=Nat.mul_le_mul_right n (show j+1<=l.length from hj);rw[fB]at this;exact this)];congr 1;induction l generalizing j with
 | nil=>cases f
 | cons a r k=>
  have o:=m a (aV ..);cases j with
  | zero=>
   rw[bN]at f;cases f;rw[fQ,dE,br,<-o,dM]
  | succ j=>
   rw[cC]at f;rw[br,fB,show j*n+n=a.length+j*n by omega,<-cD,dG];exact k j (fun x f=>m x (aT _ f)) f (bJ.1 f).1
theorem Ok.stW{z:List EV}(f:h.get i=some (.cells z t))(k:z.length=n)(a:xs.length=n)(m:Ok (kk (h.put i (.cells xs t))) Q):Ok (stE n (.ptr i 0) (.agg xs) h kk) Q:=
 Ok.st xs f rfl (by show Fl xs=n;rw[Bf,a]) (Bm (by show z.length=xs.length;rw[a,k])) m
theorem Aji.less(p:Aji h P n S)(hb:HB h)(t:∀i,S i->i<h.next->T i):Aji h P n T:=by
 obtain⟨out,⟨⟨e,q,g,r,l⟩,o⟩,b⟩:=p;exact⟨out,⟨⟨e,q,g,r,fun y=>⟨(l y).1,t _ (l y).2 (hb _ _ (r.block y))⟩⟩,t _ o (hb _ _ g)⟩,b⟩
theorem Re {w:Nat}(k:1000<K)(p:Aji h P n S)(hb:HB h)(hS:∀i,h.next<=i->S i)(m:n<=1000)(o:1<=w)(q:w<=7)(v0:0<=v)(u:v<=9223372036854775807)(A:v<(256^w:Nat)):
 Ok (Ee K (.ptr P 0) (.int .i64 w) (.int .i64 v) h) fun _ h'=>Aji h' P (n+w) S/\Au S h h'/\HB h'/\∀i,h'.next<=i->S i:=
 (Bkg k p hb m o q v0 u A).mono fun _ _ ⟨a,c,b⟩=>⟨a.mono fun i f=>f.elim id (hS i),c,b,fun i f=>hS i (bQ c.next f)⟩
theorem Ih{ll:Nat}(m:Lj h b ml ll g es)(hb:HB h):Ok (Ed K (.ptr b 0) h) fun v h'=>v=gV g/\Ext h h'/\HB h':=by
 simp only[Ed,Aa];have a:Ext h (h.new (.cells [EV.int .i64 0,.int .i64 0,.int .i64 0,.int .i64 0,.int .i64 0,.int .i64 0] 23)):=Au.new _ _;have k:=a.hb hb;rw[Cy (a.at hb m.map) rfl,show Mj (gL g++[.slice ml 0 g.B.toNat g.B.toNat false,.slice ll 0 (g.D*g.Z).toNat (g.D*g.Z).toNat false]) 0 6=some (gL g)from rfl];simp only[Aa];refine Ok.st (gL g) (Ad _ _) rfl rfl (Bm rfl) ?_;rw[Qo (Ae _ _ _) Bpt.1 Bpt.2 rfl];have f:=a.Ao (i:=h.next) (.inr (aD _)) (aR _) (.cells (gL g) 23);exact .ret ⟨rfl,f,f.hb hb⟩
theorem Bkp(s:Sm g)(h:meR g x=true):(0<=x.state/\x.state<=2)/\(0<=x.An/\x.An<=511)/\(0<=x.Bt/\x.Bt<=511)/\(0<=x.off/\x.off<=63)/\(0<=x.seq/\x.seq<=281474976710655)/\(0<=x.sum/\x.sum<=4294967295):=by
 have:=s.d0;have:=s.d1;have:=s.z0;have:=s.z1;have:=s.s1;obtain⟨m,o⟩:=N3 (a:=g.D) (b:=g.Z) (A:=8) (B:=64) (by omega) (by omega) (by omega) (by omega);unfold meR at h;split at h
 ·rename_i h0
  rw[cO h];unfold Me.nil;refine⟨?_,?_,?_,?_,?_,?_⟩<;>simp only<;>omega
 ·split at h
  ·unfold meB Y6 at h
   simp only[bL,N4,bM]at h;obtain⟨⟨_,⟨a,b⟩,c,d⟩,⟨_,⟨e,f⟩,_⟩,_,i,j,k,l⟩:=h;refine⟨?_,?_,?_,?_,?_,?_⟩<;>omega
  ·cases h
theorem A22(h:∀x∈es,meR g x=true)(j:Int):meR g (Aeu es j).1=true:=by
 have n0:meR g (Me.nil 0)=true:=by unfold meR;rw[aQ (.inl rfl)];exact aJ rfl
 unfold Aeu;split
 ·cases a:es[j.toNat]? with
  | none=>exact n0
  | some y=>exact h y (dO a)
 ·exact n0
theorem Bag(sm:Sm g)(U:meR g x=true)(f:1000<K)(p:Aji h P n S)(hb:HB h)(hS:∀i,h.next<=i->S i)(hn:n<=900):
 Ok (Axe K (.ptr P 0) (.agg x.cells) h) fun _ h'=>Aji h' P (n+16) S/\Au S h h'/\HB h'/\∀i,h'.next<=i->S i:=by
 obtain⟨b1,b2,b3,b4,b5,b6⟩:=Bkp sm U;simp only[Axe,Aa];obtain⟨E,V,B,F,n1⟩:=nW h (.cells x.cells 53);rw[V];have m:=B.hb hb;have t1:∀i,E.next<=i->S i/\i≠h.next:=fun i k=>⟨hS i (by omega),by omega⟩
 have p1:Aji E P n (fun i=>S i/\i≠h.next):=(p.less hb (T:=fun i=>S i/\i≠h.next) fun i a b=>⟨a,by omega⟩).chg hb B fun _ _ _=>id
 rw[Ah F rfl (v:=I x.state) rfl];refine(Re f p1 m t1 (by omega) (w:=1) (by omega) (by omega) (v:=x.state) (by omega) (by omega) (by omega)).Am ?_;rintro _ h2 ⟨W,c2,o,t2⟩;have G:=c2.at m F fun y=>y.2 rfl
 rw[Ah G rfl (v:=I x.An) rfl];refine(Re f W o t2 (by omega) (w:=2) (by omega) (by omega) (v:=x.An) (by omega) (by omega) (by omega)).Am ?_;rintro _ h3 ⟨X,c3,q,t3⟩;have J:=c3.at o G fun y=>y.2 rfl
 rw[Ah J rfl (v:=I x.Bt) rfl];refine(Re f X q t3 (by omega) (w:=2) (by omega) (by omega) (v:=x.Bt) (by omega) (by omega) (by omega)).Am ?_;rintro _ h4 ⟨Y,c4,u,t4⟩;have L:=c4.at q J fun y=>y.2 rfl
 rw[Ah L rfl (v:=I x.off) rfl];refine(Re f Y u t4 (by omega) (w:=1) (by omega) (by omega) (v:=x.off) (by omega) (by omega) (by omega)).Am ?_;rintro _ h5 ⟨Z,c5,A,t5⟩;have M:=c5.at u L fun y=>y.2 rfl
 rw[Ah M rfl (v:=I x.seq) rfl];refine(Re f Z A t5 (by omega) (w:=6) (by omega) (by omega) (v:=x.seq) (by omega) (by omega) (by omega)).Am ?_;rintro _ h6 ⟨p6,O,C,t6⟩;have g6:=O.at A M fun y=>y.2 rfl
 rw[Ah g6 rfl (v:=I x.sum) rfl];refine(Re f p6 C t6 (by omega) (w:=4) (by omega) (by omega) (v:=x.sum) (by omega) (by omega) (by omega)).Am ?_;rintro _ h7 ⟨p7,c7,D,t7⟩;exact .ret ⟨p7.mono fun i k=>k.1,(B.mono fun _=>False.elim).trans (((((c2.trans c3).trans c4).trans c5).trans O).trans c7|>.mono fun i k=>k.1),D,fun i k=>(t7 i k).1⟩
theorem A7h(L:1000<K){ll:Nat}(s:Sm g)(m:Lj h b ml ll g es)(hb:HB h){x:EV}(q0:0<=sq)(q1:sq<=281474976710655):
 Ok (Are K (.agg [x,y,I sq,.ptr b 0]) h) fun v h'=>Ats v/\Ext h h'/\HB h':=by
 simp only[Are,Aa];have M:Ext h ((h.new (.cells [x,y,I sq,.ptr b 0] 163)).new (.cells (List.replicate 44 (.int .u8 0)) 245)):=(Au.new _ _).C8 _;have g1:((h.new (.cells [x,y,I sq,.ptr b 0] 163)).new (.cells (List.replicate 44 (.int .u8 0)) 245)).get h.next=some (.cells [x,y,I sq,.ptr b 0] 163):=by rw[Ay _ (aR _)];exact Ad _ _
 have f1:((h.new (.cells [x,y,I sq,.ptr b 0] 163)).new (.cells (List.replicate 44 (.int .u8 0)) 245)).get (h.next+1)=some (.cells (List.replicate 44 (.int .u8 0)) 245):=Ad _ _;have n1:((h.new (.cells [x,y,I sq,.ptr b 0] 163)).new (.cells (List.replicate 44 (.int .u8 0)) 245)).next=h.next+2:=rfl
 generalize (h.new (.cells [x,y,I sq,.ptr b 0] 163)).new (.cells (List.replicate 44 (.int .u8 0)) 245)=h1 at M g1 f1 n1⊢;have U:=M.hb hb;rw[Ah g1 rfl (v:=.ptr b 0) rfl];refine(Ih (K:=K) (m.frame (M.get _ (hb _ _ m.map) id) (M.get _ (hb _ _ m.row) id) (M.get _ (hb _ _ m.live) id)) U).Am ?_;rintro _ h2 ⟨rfl,x2,V⟩;have g2:=x2.at U g1;have f2:=x2.at U f1;refine Ok.stW (xs:=gL g) (Ad _ _) rfl rfl ?_;rw[Aw (l:=[.Al,.bool false]) rfl];simp only[Aa];obtain⟨o,e_,x3,e3,n3⟩:=nP h2 (.cells [EV.int .i64 0,.int .i64 0,.int .i64 0,.int .i64 0,.int .i64 0,.int .i64 0] 23) (.cells (gL g) 23);rw[e_];have p:=x3.hb V;have x4:Ext o (o.new (.cells [.Al,.bool false] 350)):=Au.new _ _;have p4:Aji (o.new (.cells [.Al,.bool false] 350)) o.next 0 (fun i=>o.next<=i):=A9s (aD _)
 have n4:(o.new (.cells [.Al,.bool false] 350)).next=o.next+1:=rfl
 generalize o.new (.cells [.Al,.bool false] 350)=h4 at x4 p4 n4⊢;have q:=x4.hb p;have g4:=x4.at p (x3.at V g2);have f4:=x4.at p (x3.at V f2);have e4:=x4.at p e3;have l1:=x2.next
 have W:¬o.next<=h.next:=by omega
 have X:¬o.next<=h.next+1:=by omega
 have Y:¬o.next<=h2.next:=by omega
 have:=s.d0;have:=s.d1;have:=s.z0;have:=s.z1;have:=s.s0;have:=s.s1;have:=s.b0;have:=s.b1;have:=s.p0;have:=s.p1;have:=s.o0;have:=s.o1;have t4:∀i,h4.next<=i->o.next<=i:=fun i hi=>by omega
 rw[Ah g4 rfl (v:=I sq) rfl];refine(Re L p4 q t4 (by omega) (w:=6) (by omega) (by omega) (v:=sq) (by omega) (by omega) (by omega)).Am ?_;rintro _ h5 ⟨p5,c5,u,t5⟩;have g5:=c5.at q g4 W;have f5:=c5.at q f4 X;have e5:=c5.at q e4 Y;rw[Ah e5 rfl (v:=I g.D) rfl];refine(Re L p5 u t5 (by omega) (w:=1) (by omega) (by omega) (v:=g.D) (by omega) (by omega) (by omega)).Am ?_;rintro _ h6 ⟨p6,c6,A,t6⟩;have g6:=c6.at u g5 W;have f6:=c6.at u f5 X;have e6:=c6.at u e5 Y;rw[Ah e6 rfl (v:=I g.Z) rfl];refine(Re L p6 A t6 (by omega) (w:=1) (by omega) (by omega) (v:=g.Z) (by omega) (by omega) (by omega)).Am ?_;rintro _ h7 ⟨p7,c7,C,t7⟩;have g7:=c7.at A g6 W;have f7:=c7.at A f6 X;have e7:=c7.at A e6 Y;rw[Ah e7 rfl (v:=I g.S) rfl];refine(Re L p7 C t7 (by omega) (w:=1) (by omega) (by omega) (v:=g.S) (by omega) (by omega) (by omega)).Am ?_;rintro _ h8 ⟨p8,c8,E,t8⟩;have g8:=c8.at C g7 W;have f8:=c8.at C f7 X;have e8:=c8.at C e7 Y;rw[Ah e8 rfl (v:=I g.B) rfl];refine(Re L p8 E t8 (by omega) (w:=2) (by omega) (by omega) (v:=g.B) (by omega) (by omega) (by omega)).Am ?_;rintro _ h9 ⟨p9,c9,F,t9⟩;have g9:=c9.at E g8 W;have f9:=c9.at E f8 X;have e9:=c9.at E e8 Y;rw[Ah e9 rfl (v:=I g.P) rfl];refine(Re L p9 F t9 (by omega) (w:=1) (by omega) (by omega) (v:=g.P) (by omega) (by omega) (by omega)).Am ?_;rintro _ bt ⟨ao,G,f,t10⟩;have aq:=G.at F g9 W;have f10:=G.at F f9 X;have e10:=G.at F e9 Y;rw[Ah e10 rfl (v:=I g.O) rfl];refine(Re L ao f t10 (by omega) (w:=1) (by omega) (by omega) (v:=g.O) (by omega) (by omega) (by omega)).Am ?_;rintro _ bu ⟨au,k,J,t11⟩;have bw:=k.at f aq W;have f11:=k.at f f10 X;have e11:=k.at f e10 Y;refine(Auw au J (by omega) (by omega)).Am ?_;rintro v aw ⟨hv,ab,ad⟩;have x5:Ext h h4:=((M.trans x2).trans x3).trans x4;have k:=((((((c5.trans c6).trans c7).trans c8).trans c9).trans G).trans k);have x:Ext h aw:=(x5.then k fun i a b=>by have:=M.next;omega).trans ab;exact Ba3 hv (ab.at J f11) (by simp) x ad (by show h.next<=h.next+1;omega)
theorem A0r(J:1000<K){h4:Ab}{ll n3 r:Nat}(s:Sm g){l:List EV}(L:l[3]? = some (.ptr b 0)){j:Int}(j0:1<=j)(j1:j<=255)(M:∀h,Au (fun i=>n3<=i) h4 h->Ext h0 h)(O:h0.next<=r)(k1:t<n3)(k2:r<n3)(k3:b<n3)(k4:ml<n3)(k5:ll<n3):∀(n i:Nat) (h:Ab),2-i<n->i<=2->HB h->(∀i,h.next<=i->n3<=i)->Au (fun i=>n3<=i) h4 h->Aji h P (1+16*i) (fun i=>n3<=i)->Lj h b ml ll g es->h.get t=some (.cells l 163)->h.get r=some (.cells (List.replicate 44 (.int .u8 0)) 245) ->
 Ok (X1 K n (I j) (.ptr t 0) (.ptr r 0) (.ptr P 0) (I i) h) fun v h'=>Ats v/\Ext h0 h'/\HB h':=by
 intro n;induction n with
 | zero=>intro i h U;omega
 | succ n V=>
  intro i h U B hb W c p m gt C;rw[X1];simp only[I,Ac,Aa];by_cases X:i<2
  ·have:decide ((i:Int)<2)=true:=by simp;omega
   simp only[this,Aa,Awf];rw[Ah gt rfl L];simp only[Ac];rw[show Cx .i64 (j-1)=j-1 from Cg,show Cx .i64 (2*(j-1))=2*(j-1)from Cg,show Cx .i64 (2*(j-1)+i)=2*(j-1)+i from Cg];refine(Tf (K:=K) s m hb (2*(j-1)+i)).Am ?_;rintro _ h2 ⟨rfl,D⟩;have q:=D.hb hb;have E:=A22 m.ok (2*(j-1)+(i:Int));generalize (Aeu es (2*(j-1)+(i:Int))).1=x at E⊢;simp only[Aa];refine Ok.mk rfl rfl fun h3 F e3 _=>?_
   have u:=F.hb q;rw[Cn e3 rfl (Ak (n:=6) rfl)];have f:=D.trans F;refine(Bag s E J (p.chg hb f fun _ _ _=>id) u (fun i B=>W i (bQ f.next B)) (by omega)).Am ?_;rintro _ G ⟨Y,c5,A,t5⟩;have a:Au (fun i=>n3<=i) h G:=(Ext.to f).trans c5;simp only[Au4,I,Ac];rw[Cg,show((i:Nat):Int)+1=((i+1:Nat):Int) by omega];refine V (i+1) G (by omega) (by omega) A t5 (c.trans a) ?_ ?_ ?_ ?_
   ·rw[Nat.mul_succ,<-Nat.add_assoc];exact Y
   ·exact m.frame (a.get _ (hb _ _ m.map) (by omega)) (a.get _ (hb _ _ m.row) (by omega)) (a.get _ (hb _ _ m.live) (by omega))
   ·exact a.at hb gt (by omega)
   ·exact a.at hb C (by omega)
  ·have:decide ((i:Int)<2)=false:=by simp;omega
   have:i=2:=by omega
   subst this;simp only[this,Aa,Avv];refine(Auw p hb (by omega) (by omega)).Am ?_;rintro v Z ⟨hv,k,o⟩;exact Ba3 hv (k.at hb C) (by simp) ((M h c).trans k) o O
theorem A7k(C:1000<K){ll:Nat}(s:Sm g)(m:Lj h b ml ll g es)(hb:HB h){x z:EV}{j:Int}(F:1<=j)(G:j<=255):
 Ok (Arh K (.agg [x,y,z,.ptr b 0]) (I j) h) fun v h'=>Ats v/\Ext h h'/\HB h':=by
 simp only[Arh,Aa];rw[Aw (l:=[.Al,.bool false]) rfl];simp only[Aa];have A:Ext h ((h.new (.cells [x,y,z,.ptr b 0] 163)).new (.cells (List.replicate 44 (.int .u8 0)) 245)):=(Au.new _ _).C8 _;have D:((h.new (.cells [x,y,z,.ptr b 0] 163)).new (.cells (List.replicate 44 (.int .u8 0)) 245)).get h.next=some (.cells [x,y,z,.ptr b 0] 163):=by rw[Ay _ (aR _)];exact Ad _ _
 have f1:((h.new (.cells [x,y,z,.ptr b 0] 163)).new (.cells (List.replicate 44 (.int .u8 0)) 245)).get (h.next+1)=some (.cells (List.replicate 44 (.int .u8 0)) 245):=Ad _ _;have J:((h.new (.cells [x,y,z,.ptr b 0] 163)).new (.cells (List.replicate 44 (.int .u8 0)) 245)).next=h.next+2:=rfl
 rw[show(h.new (By.cells [x,y,z,EV.ptr b 0] 163)).next=h.next+1 from rfl];generalize (h.new (.cells [x,y,z,.ptr b 0] 163)).new (.cells (List.replicate 44 (.int .u8 0)) 245)=k at A D f1 J⊢;have o:=A.hb hb;have p:Ext k (k.new (.cells [.Al,.bool false] 350)):=Au.new _ _;have E:Aji (k.new (.cells [.Al,.bool false] 350)) k.next 0 (fun i=>k.next<=i):=A9s (aD _)
 have n4:(k.new (.cells [.Al,.bool false] 350)).next=k.next+1:=rfl
 generalize k.new (.cells [.Al,.bool false] 350)=h4 at p E n4⊢;have f:=p.hb o;have l1:=hb _ _ m.map;have L:=hb _ _ m.row;have M:=hb _ _ m.live;have q:=A.trans p;refine(Re C E f (fun i V=>by omega) (by omega) (w:=1) (by omega) (by omega) (v:=j) (by omega) (by omega) (by omega)).Am ?_;rintro _ O ⟨U,c5,B,t5⟩;refine A0r (es:=es) (n3:=k.next) C s rfl F G (h0:=h) (h4:=h4) (b:=b) (ml:=ml) (ll:=ll) (fun h' c=>q.then c fun i a b=>by omega) (fL _) (by omega) (by omega) (by omega) (by omega) (by omega) K 0 O (by omega) (by omega) B t5 c5 U ?_ (c5.at f (p.at o D) (by omega)) (c5.at f (p.at o f1) (by omega));have u:=m.frame (q.get _ l1 id) (q.get _ L id) (q.get _ M id);exact u.frame (c5.get _ (f _ _ u.map) (by omega)) (c5.get _ (f _ _ u.row) (by omega)) (c5.get _ (f _ _ u.live) (by omega))
section
theorem Buh:(Ek TT 159 0).2.1 = [29,30]:=by kernel_rfl
def A5x(sq:Int)(es:List Me):Bool:=es.any fun x=>decide (sq<=x.seq)
structure Bh9(h:Ab)(l0 d0:Nat)(tm:Bb)(b1 b2:Nat)(x y w:EV)(sq:Int)(found:Bool):Prop where
 lp:h.get l0=some (Av TT 159 36 0 tm (if found then .done else .ready) (if found then some .ret else none) d0)
 c1:h.get b1=some (.cells [x,y,I sq,w] 163)
 c2:h.get b2=some (.cells [.bool false] 4)
 hb:HB h
section
variable (H:Bw disp)
include H
theorem Bap(he:2<=e){l0 d0 b1:Nat}{x w:EV}{i:Int}{z:Me}(C:Bh9 h l0 d0 tm b1 b2 x y w sq false)(t1:tmp tm 1=.ptr b1 0)(t2:tmp tm 2=.ptr b2 0):
 ∃h',Ag TT disp K (e+1) true l0 [I i,.agg z.cells] h=some (.bool (decide (¬sq<=z.seq)),h')/\Bh9 h' l0 d0 tm b1 b2 x y w sq (decide (sq<=z.seq))/\Au (fun j=>j=l0\/j=b2) h h':=by
 have q:=C.lp;simp only[aW,aY]at q;have k:=q;have J:=C.c1;have L:=C.c2;have hb:=C.hb;unfold Av at k;rw[Buh]at k;rw[Amh H he tm h (I i) _ k,t1,t2];have W:=hb _ _ q;have m:l0≠b1:=Ba q J (by simp[Av]);have f:l0≠b2:=Ba q L (by simp[Av]);have M:b1≠b2:=Ba J L (by intro y;injection y with _ y;cases y);simp only[Afi,Aa];rw[Aql (h:=h.new (.cells [EV.int .i64 0,.int .i64 0,.int .i64 0,.int .i64 0,.int .i64 0,.int .i64 0] 53)) (i:=h.next) (o:=0) (n:=6) (v:=.agg z.cells) (l:=[EV.int .i64 0,.int .i64 0,.int .i64 0,.int .i64 0,.int .i64 0,.int .i64 0]) (t:=53) (l':=z.cells) (Ad _ _) rfl rfl (Bm rfl)];obtain⟨p,X,u,e3,_⟩:=nP h (.cells [EV.int .i64 0,.int .i64 0,.int .i64 0,.int .i64 0,.int .i64 0,.int .i64 0] 53) (.cells z.cells 53);rw[X];have A:=u.hb hb;have O:=u.at hb q;have U:=A _ _ O;rw[W6 O];have c4:Au (fun j=>j=l0\/j=b2) h (p.put l0 (Av TT 159 36 0 tm .busy none d0)):=(Ext.to (S:=fun j=>j=l0\/j=b2) u).Ao (.inl (.inl rfl)) U _;have r0:(p.put l0 (Av TT 159 36 0 tm .busy none d0)).get l0=some (Av TT 159 36 0 tm .busy none d0):=Ae _ _ _;have D:(p.put l0 (Av TT 159 36 0 tm .busy none d0)).get b1=some (.cells [x,y,I sq,w] 163):=by rw[Af _ m];exact u.at hb J
 have E:(p.put l0 (Av TT 159 36 0 tm .busy none d0)).get b2=some (.cells [.bool false] 4):=by rw[Af _ f];exact u.at hb L
 have V:(p.put l0 (Av TT 159 36 0 tm .busy none d0)).get h.next=some (.cells z.cells 53):=by rw[Af _];exact e3
 have a:HB (p.put l0 (Av TT 159 36 0 tm .busy none d0)):=A.put U _;generalize p.put l0 (Av TT 159 36 0 tm .busy none d0)=h4 at c4 r0 D E V a⊢;have F:=a _ _ r0;have B:=a _ _ E;simp only[Xc,Aa];rw[Ah V rfl (v:=I z.seq) rfl,Ah D rfl (v:=I sq) rfl];simp only[I,Ac];by_cases G:sq<=z.seq
 ·have e1:decide (z.seq≥sq)=true:=aJ G
  simp only[e1,Aa,G,aC,aA,aB];rw[Aql (o:=0) (n:=1) (v:=.bool false) (l':=[.bool false]) E rfl rfl rfl,Np (by rw[Af _ (cT f)];exact r0)];exact⟨_,rfl,⟨Ae _ _ _,by rw[Af _ m,Af _ (cT M)];exact D,by rw[Af _ f];exact Ae _ _ _,(a.put B _).put (by rw[Ab.Qg];exact F) _⟩,(c4.Ao (.inl (.inr rfl)) B _).Ao (.inl (.inl rfl)) (by rw[Ab.Qg];exact F) _⟩
 ·have e1:decide (z.seq≥sq)=false:=aK G
  simp only[e1,Aa,G,aF,aA,aB];rw[Np r0];exact⟨_,rfl,⟨Ae _ _ _,by rw[Af _ m];exact D,by rw[Af _ f];exact E,a.put F _⟩,c4.Ao (.inl (.inl rfl)) F _⟩
theorem Bea(he:3<=e){l0 d0 b1:Nat}{x w:EV}(L:es.length<=256)(t1:tmp tm 1=.ptr b1 0)(t2:tmp tm 2=.ptr b2 0):∀(m i:Nat) (h:Ab),es.length-i<m->i<=es.length->Bh9 h l0 d0 tm b1 b2 x y w sq false ->
 h.get ml=some (.cells (es.map Me.cells).flatten 53)->ml≠l0->ml≠b2 ->
 Ok (Ci (Ag TT disp K e false) (Ag TT disp K e true) K m (.U1 l0) (.slice ml 0 es.length es.length false) (I es.length) (I i) h) fun _ h'=>Bh9 h' l0 d0 tm b1 b2 x y w sq (A5x sq (es.drop i))/\Au (fun j=>j=l0\/j=b2) h h':=by
 intro m;induction m with
 | zero=>intro i h hm;omega
 | succ m F=>
  intro i h hm M f E p q;rw[Ci];simp only[I,Ac,Aa];by_cases o:i<es.length
  ·have:decide ((i:Int)<(es.length:Int))=true:=by simp;omega
   simp only[this,Aa,Fp];rw[N5 o,bF,Cn E rfl (Az4 es o)];rw[show A5x sq (es.drop i)=(decide (sq<=es[i].seq)||A5x sq (es.drop (i+1))) by rw[dI o];rfl];generalize es[i]=z
   try simp only[Aa]
   refine Ok.mk rfl rfl fun C u e3 _=>?_
   have D:=u.hb f.hb;rw[Cn e3 rfl (Ak (n:=6) rfl)];obtain⟨e,rfl⟩:∃k,e=k+1:=⟨e-1,by omega⟩;have G:Rf (Ag TT disp K (e+1) false) (Ag TT disp K (e+1) true) (.U1 l0) [.int .i64 (i:Int),.agg z.cells] C=Ag TT disp K (e+1) true l0 [I i,.agg z.cells] C:=rfl;obtain⟨h4,J,A,c4⟩:=Bap (K:=K) H (e:=e) (by omega) (i:=i) (z:=z) (⟨u.at f.hb f.lp,u.at f.hb f.c1,u.at f.hb f.c2,D⟩:Bh9 C l0 d0 tm b1 b2 x y w sq false) t1 t2;rw[G,J,Ap];have c:Au (fun j=>j=l0\/j=b2) h h4:=(Ext.to u).trans c4;by_cases B:sq<=z.seq
   ·simp only[B,aB]at A
    simp only[B,aC,aA,Aa,aB,Bool.true_or];exact .ret ⟨A,c⟩
   ·simp only[B,aA]at A
    simp only[B,aF,aB,aA,Aa,Bool.false_or,Fs,Ac];rw[Cg,show((i:Nat):Int)+1=((i+1:Nat):Int) by omega];refine(F (i+1) h4 (by omega) (by omega) A (c.at f.hb E fun y=>y.elim p q) p q).mono ?_;rintro _ O ⟨a,c5⟩;exact⟨a,c.trans c5⟩
  ·have:decide ((i:Int)<(es.length:Int))=false:=by simp;omega
   have e0:es.drop i = []:=List.drop_eq_nil_of_le (by omega);rw[e0];simp only[this,Aa];exact .ret ⟨f,Au.refl _⟩
omit H in
theorem A2k {l:Int}(h:Ab):Tb K (I v) (I l) h=some (.bool (decide (1<=v)&&decide (v<=l)),h):=by
 simp only[Tb,Aq7,I,Ac,Aa];by_cases a:1<=v<;>by_cases h2:v<=l<;>simp[a,h2,Aa]
end
end
section
def snR(x y z:Int)(es:List Me):Bool:=(decide (1<=x)&&decide (x<=281474976710655))&&((decide (1<=y)&&decide (y<=4294967295))&&((decide (1<=z)&&decide (z<=281474976710655))&&!A5x z es))
theorem Aku {a:Ab}{q:Nat}{b:Bool}(f:a.get q=some (.cells [.bool b] 4)):Ii TT [.c (.ptr q 0) 4] a=some (.bool b,a):=by
 have k:Iw a q 0 1=some [.bool b]:=by unfold Iw;rw[f];rfl
 unfold Ii;simp only[Azi,show TT.size 4=some 1 by kernel_rfl,show TT.agg 4=some false by kernel_rfl,k]
section
variable (H:Bw disp)
include H
theorem A0k(he:4<=e)(hK:1000<K){p:Ab}(w1:Ext h0 p){ll b1:Nat}(s:Sm g)(m:Lj p b ml ll g es)(f:HB p)(l1:h0.next<=b1)(l2:h0.next<=b2)(lm:ml<h0.next){x:EV}{z:Int}(V:p.get b1=some (.cells [x,y,I z,.ptr b 0] 163))(f1:p.get b2=some (.cells [.bool false] 4))(t1:tmp tm 1=.ptr b1 0)(t2:tmp tm 2=.ptr b2 0):
 Ok (Vw (Ag TT disp K e false) (Ag TT disp K e true) K tm (.ptr b1 0) (.ptr b2 0) p []) fun v h'=>v=.bool (!A5x z es)/\Ext h0 h'/\HB h':=by
 have:=s.b0;have:=s.b1;have hlen:=m.len;simp only[Vw,Aa];rw[Ah V rfl (v:=.ptr b 0) rfl];simp only[Yl,Aa,E5];rw[Ah m.map rfl (v:=.slice ml 0 g.B.toNat g.B.toNat false) rfl,<-hlen];simp only[Aa];obtain⟨h2,e_,x2,q2,n2⟩:=nW p (.cells [.slice ml 0 es.length es.length false] 141);rw[e_];have D:=x2.hb f;have E:tmp (((tm.put 26 (some (.ptr b1 3))).put 27 (some (.ptr b 0))).put 28 (some (.func 201 [] [.ptr p.next 0]))) 1=.ptr b1 0:=by simp only[G3,reduceIte,Nat.reduceEqDiff];exact t1
 have F:tmp (((tm.put 26 (some (.ptr b1 3))).put 27 (some (.ptr b 0))).put 28 (some (.func 201 [] [.ptr p.next 0]))) 2=.ptr b2 0:=by simp only[G3,reduceIte,Nat.reduceEqDiff];exact t2
 generalize (((tm.put 26 (some (.ptr b1 3))).put 27 (some (.ptr b 0))).put 28 (some (.func 201 [] [.ptr p.next 0])))=tm at E F⊢;obtain⟨e,rfl⟩:∃k,e=k+1:=⟨e-1,by omega⟩;refine Ok.range ?_;have L:Ext h2 (Ca TT 159 36 0 tm h2):=Hg;have W:(Ca TT 159 36 0 tm h2).get h2.next=some (.deferred true):=Je
 have k1:(Ca TT 159 36 0 tm h2).get (h2.next+1)=some (Av TT 159 36 0 tm .ready none h2.next):=Hp;generalize Ca TT 159 36 0 tm h2=M at L W k1⊢;have u:=L.hb D;have q:Ext p M:=x2.trans L;have aj:=f _ _ V;have al:=f _ _ f1;have ao:=f _ _ m.row;rw[Jb H (cU _)];simp only[Gf,dr];rw[Ah (L.at D q2) rfl (v:=.slice ml 0 es.length es.length false) rfl];simp only[Aa];have I3:Bh9 M (h2.next+1) h2.next tm b1 b2 x y (.ptr b 0) z false:=⟨k1,q.at f V,q.at f f1,u⟩
 refine(Bea (K:=K) H (e:=e) (by omega) (es:=es) (ml:=ml) (by omega) E F K 0 M (by omega) (by omega) I3 (q.at f m.row) (by omega) (by omega)).mono ?_;rw[dE];rintro _ h4 ⟨G,c4⟩;have au:=w1.next
 have O:=G.hb _ _ G.lp;have k2:h2.next<M.next:=u _ _ W
 have kd:h4.get h2.next=some (.deferred true):=c4.at u W (by omega)
 have x4:Ext h0 h4:=(w1.trans q).then c4 fun i U a=>by omega
 have ne:h2.next≠b2:=by omega
 have lp:=G.lp;have c2:=G.c2;have J:=G.hb;revert lp;generalize A5x z es=bb;intro lp;cases bb with
 | true=>
  simp only[bI]at lp;refine .inr ⟨lp,?_⟩;have o:HB (h4.put (h2.next+1) (Av TT 159 36 0 tm .exhausted (some .ret) h2.next)):=J.put O _;refine Ok.unwind (cV.2 ⟨by simp,dF⟩) (fun d hd=>by rw[aP]at hd;subst hd;rw[Af _];exact kd) o fun X A _=>?_
  have Y:X.get b2=some (.cells [.bool false] 4):=Au.at A o (by rw[Af _];exact c2) (by rw[aP];omega);rw[Aku Y];exact .ret ⟨rfl,(x4.Ao (.inr (by omega)) O _).then A fun i U a=>by rw[aP]at U;omega,A.hb o⟩
 | false=>
  simp only[aW,aY]at lp;refine .inl ⟨lp,?_⟩;simp only[Wc,dr];have o:HB (h4.put (h2.next+1) (Av TT 159 36 0 tm .exhausted none h2.next)):=J.put O _;have Z:(h4.put (h2.next+1) (Av TT 159 36 0 tm .exhausted none h2.next)).get b2=some (.cells [.bool false] 4):=by rw[Af _];exact c2
  have x5:Ext h0 (h4.put (h2.next+1) (Av TT 159 36 0 tm .exhausted none h2.next)):=x4.Ao (.inr (by omega)) O _;have d5:(h4.put (h2.next+1) (Av TT 159 36 0 tm .exhausted none h2.next)).get h2.next=some (.deferred true):=by rw[Af _];exact kd
  generalize h4.put (h2.next+1) (Av TT 159 36 0 tm .exhausted none h2.next)=h5 at o Z x5 d5⊢;have l6:=o _ _ Z;refine Ok.st1 Z rfl rfl (by show 0<1;decide) ?_;have C:HB (h5.put b2 (.cells ([EV.bool false].set 0 (.bool true)) 4)):=o.put l6 _;refine Ok.unwind (cV.2 ⟨by simp,dF⟩) (fun d hd=>by rw[aP]at hd;subst hd;rw[Af _ (cT ne)];exact d5) C fun X A _=>?_
  have Y:X.get b2=some (.cells [.bool true] 4):=Au.at A C (Ae _ _ _) (by rw[aP];exact cT ne);rw[Aku Y];exact .ret ⟨rfl,(x5.Ao (.inr l2) l6 _).then A fun i U a=>by rw[aP]at U;omega,A.hb C⟩
end
end
theorem Ac2 {l:Int}(h:Ab):Tb K (.int .i64 v) (.int .i64 l) h=some (.bool (decide (1<=v)&&decide (v<=l)),h):=A2k h
theorem Boq {a:Ab}(f1:a.get b2=some (.cells [.bool false] 4))(w1:Ext h0 a)(f:HB a)(k:h0.next<=b2):Ok (stE 1 (.ptr b2 0) (.bool false) a fun h=>Fi [] h fun h=>Ii TT [.c (.ptr b2 0) 4] h) fun v h'=>v=.bool false/\Ext h0 h'/\HB h':=by
 have l:=f _ _ f1;refine Ok.st1 f1 rfl rfl (by show 0<1;decide) ?_;show Ok (Ii TT [.c (.ptr b2 0) 4] (a.put b2 (.cells [.bool false] 4))) _;rw[Aku (b:=false) (Ae _ _ _)];exact .ret ⟨rfl,w1.Ao (.inr k) l _,f.put l _⟩
section
variable (H:Bw disp)
include H
theorem Ajn(hd:5<=d)(o:1000<K){ll:Nat}(s:Sm g)(m:Lj h b ml ll g es)(hb:HB h)(x y z:Int):
 Ok (Ag TT disp K d false 159 [.agg [I x,I y,I z,.ptr b 0]] h) fun v h'=>v=.bool (snR x y z es)/\Ext h h'/\HB h':=by
 obtain⟨e,rfl⟩:∃k,d=k+1:=⟨d-1,by omega⟩;rw[Ar5 H (by omega)];simp only[Anq,Aa];have w1:Ext h ((h.new (.cells [I x,I y,I z,.ptr b 0] 163)).new (.cells [.bool false] 4)):=(Au.new _ _).C8 _;have a:((h.new (.cells [I x,I y,I z,.ptr b 0] 163)).new (.cells [.bool false] 4)).get h.next=some (.cells [I x,I y,I z,.ptr b 0] 163):=by rw[Ay _ (aR _)];exact Ad _ _
 have f1:((h.new (.cells [I x,I y,I z,.ptr b 0] 163)).new (.cells [.bool false] 4)).get (h.next+1)=some (.cells [.bool false] 4):=Ad _ _;have p:((h.new (.cells [I x,I y,I z,.ptr b 0] 163)).new (.cells [.bool false] 4)).next=h.next+2:=rfl
 rw[show(h.new (By.cells [I x,I y,I z,EV.ptr b 0] 163)).next=h.next+1 from rfl];generalize (h.new (.cells [I x,I y,I z,.ptr b 0] 163)).new (.cells [.bool false] 4)=A at w1 a f1 p⊢;have f:=w1.hb hb;have no:=Boq (h0:=h) f1 w1 f (fL _);have q:D6 (.tuple []) false=false/\D6 (.tuple []) true=false:=⟨rfl,rfl⟩;unfold snR;rw[Ah a rfl (v:=.ptr b 0) rfl,show ∀k:EV->R,Ko Aj7 (bin TT .eql 49) (.ptr b 0) .Bu k=k (.bool false)from fun k=>by kernel_rfl];simp only[Aa,Ac];rw[Ah a rfl (v:=I x) rfl]
 try simp only[I]
 rw[Ac2,Ap];cases(decide (1<=x)&&decide (x<=281474976710655))with
 | false=>
  simp only[Aa,Ac,P6,Lw,I9,ak];exact no
 | true=>
 simp only[Aa,Ac,P6,bD];rw[Ah a rfl (v:=I y) rfl]
 try simp only[I]
 rw[Ac2,Ap];cases(decide (1<=y)&&decide (y<=4294967295))with
 | false=>
  simp only[Aa,Ac,Lw,I9,ak];exact no
 | true=>
 simp only[Aa,Ac,Lw,bD];rw[Ah a rfl (v:=I z) rfl]
 try simp only[I]
 rw[Ac2,Ap];cases(decide (1<=z)&&decide (z<=281474976710655))with
 | false=>
  simp only[Aa,Ac,I9,ak];exact no
 | true=>
 simp only[Aa,Ac,I9,bD];have u:=m.frame (w1.get _ (hb _ _ m.map) id) (w1.get _ (hb _ _ m.row) id) (w1.get _ (hb _ _ m.live) id);exact A0k H (by omega) o w1 s u f (aD _) (fL _) (hb _ _ m.row) a f1 (by simp only[G3,reduceIte,Nat.reduceEqDiff]) (by simp only[G3,reduceIte,Nat.reduceEqDiff])
end
end Go.Ev
