import Derived.Test.YtokpnommcenoaaaGreatVb
import Derived.Test.YtokpnommcenoaaaGreatDc
set_option linter.all false
namespace Go.Ev
open Go.Proofs
set_option maxRecDepth 100000
variable {h h' h0:Ab}{K P b d e i j n t b2 ml:Nat}{g:Gm}{es:List Me}{xs:List EV}{kk:Ab->R}{Q:EV->Ab->Prop}{x:Me}{y:EV}{S T:Nat->Prop}{v sq:Int}{tm:Ax}{disp:Nat->Option FT}
instance:DecidableEq Me:=fun a b=>by
 cases a;cases b;simp only[Me.mk.injEq];exact inferInstance
def Me.nil(s:Int):Me:=⟨s,0,0,0,0,0⟩
def meR(g:Gm)(x:Me):Bool:=if x.state=0\/x.state=2 then decide (x=Me.nil x.state)else if x.state=1 then meB g x else false
def Ail(z:Int)(x:Me):Int:=if x.state=1/\(x.An=z\/x.Br=z)then 1 else 0
def V6(es:List Me)(z:Int):Int:=(es.map (Ail z)).foldr (· + ·) 0
theorem Zx(x:Me)(es:List Me)(z:Int):V6 (x::es) z=Ail z x+V6 es z:=rfl
theorem Ba3(z:Int)(x:Me):0<=Ail z x/\Ail z x<=1:=by unfold Ail;split<;>omega
theorem As4(z:Int):∀es:List Me,0<=V6 es z/\V6 es z<=es.length
 | []=>⟨Int.le_refl _,Int.le_refl _⟩
 | x::es=>by
  have:=As4 z es;have:=Ba3 z x;rw[Zx,bH];omega
theorem A0x(z:Int)(y:Me):∀(es:List Me) (j:Nat) (hj:j<es.length),V6 (es.set j y) z=V6 es z-Ail z es[j]+Ail z y
 | x::es,0,_=>by
  rw[List.set_cons_zero,Zx,Zx];show Ail z y+V6 es z=Ail z x+V6 es z-Ail z x+Ail z y;omega
 | x::es,j+1,hj=>by
  have a:j<es.length:=by simpa using hj
  rw[List.set_cons_succ,Zx,Zx,A0x z y es j a];show _=Ail z x+V6 es z-Ail z es[j]+Ail z y;omega
structure Q0(h:Ab)(b ml ll:Nat)(g:Gm)(es:List Me):Prop where
 map:h.get b=some (.cells (gL g++[.slice ml 0 g.B.toNat g.B.toNat false,.slice ll 0 (g.D*g.Z).toNat (g.D*g.Z).toNat false]) 143)
 row:h.get ml=some (.cells (es.map Me.cells).flatten 53)
 live:h.get ll=some (.cells ((List.range (g.D*g.Z).toNat).map fun(z:Nat)=>I (V6 es z)) 3)
 len:es.length=g.B.toNat
 ok:∀x∈es,meR g x=true
theorem Q0.frame{ll:Nat}(m:Q0 h b ml ll g es)(e1:h'.get b=h.get b)(e2:h'.get ml=h.get ml)(e3:h'.get ll=h.get ll):Q0 h' b ml ll g es:=⟨by rw[e1];exact m.map,by rw[e2];exact m.row,by rw[e3];exact m.live,m.len,m.ok⟩
theorem Q0.ext{ll:Nat}(m:Q0 h b ml ll g es)(e:∀i o,h.get i=some o->h'.get i=some o):Q0 h' b ml ll g es:=⟨e _ _ m.map,e _ _ m.row,e _ _ m.live,m.len,m.ok⟩
theorem A1h:∀(l:List (List EV)) (j:Nat) (x:List EV),(∀x∈l,x.length=n)->l[j]? = some x->Mh l.flatten (j*n) n=some x:=by
 have len:∀l:List (List EV),(∀x∈l,x.length=n)->l.flatten.length=l.length*n:=fun l=>by
  induction l with
  | nil=>intro _;simp
  | cons a r k=>intro h;rw[bm,aF,h a (aV ..),k fun x f=>h x (aT _ f),bH,eS];omega
 intro l j x m f;have hj:=(bA.1 f).1;rw[Fc (by rw[len l m];have:=Nat.mul_le_mul_right n (show j+1<=l.length from hj);rw[eS]at this;exact this)];congr 1;induction l generalizing j with
 | nil=>cases f
 | cons a r k=>
  have o:=m a (aV ..);cases j with
  | zero=>
   rw[bM]at f;cases f;rw[fG,dA,bm,<-o,dI]
  | succ j=>
   rw[b9]at f;rw[bm,eS,show j*n+n=a.length+j*n by omega,<-cW,dE];exact k j (fun x f=>m x (aT _ f)) f (bA.1 f).1
theorem Axm(es:List Me)(hj:j<es.length):Mh (es.map Me.cells).flatten (j*6) 6=some es[j].cells:=
 A1h (n:=6) (es.map Me.cells) j es[j].cells (fun y a=>by obtain⟨z,_,rfl⟩:=cJ.1 a;rfl) (by rw[av,aH hj];rfl)
def Ak4(es:List Me)(j:Int):Me × Int:=if 0<=j/\j<es.length then((es[j.toNat]?).getD (Me.nil 0),0)else(Me.nil 0,13)
theorem Ok.stA{z:List EV}(f:h.get i=some (.cells z t))(k:z.length=n)(a:xs.length=n)(m:Ok (kk (h.put i (.cells xs t))) Q):Ok (stE n (.ptr i 0) (.agg xs) h kk) Q:=
 Ok.st xs f rfl (by show F9 xs=n;rw[Bf,a]) (Bm (by show z.length=xs.length;rw[a,k])) m
theorem U0{ll:Nat}(s:Sm g)(m:Q0 h b ml ll g es)(hb:HB h)(j:Int):Ok (Jq K (.ptr b 0) (I j) h) fun v h'=>v=.tuple [.agg (Ak4 es j).1.cells,I (Ak4 es j).2]/\Ext h h':=by
 have:=s.b0;have:=s.b1;simp only[Jq,I,Aa,Ad];rw[show[EV.int .i64 0,.int .i64 0,.int .i64 0,.int .i64 0,.int .i64 0,.int .i64 0]=(Me.nil 0).cells from rfl];have a:Ext h (h.new (.cells (Me.nil 0).cells 53)):=Ar.new _ _;have f:(h.new (.cells (Me.nil 0).cells 53)).get h.next=some (.cells (Me.nil 0).cells 53):=Ac _ _
 generalize h.new (.cells (Me.nil 0).cells 53)=C at a f⊢;have o:=a.hb hb;have q:=a.at hb m.map;have D:=a.at hb m.row;have E:=o _ _ f;have st:∀(x:Me) (e:Int),Ok (stE 6 (.ptr h.next 0) (.agg x.cells) C fun p=>I9 TT [.c (.ptr h.next 0) 53,.v (.int .i64 e)] p) fun v h'=>v=.tuple [.agg x.cells,I e]/\Ext h h':=by
  intro x e;refine Ok.stA f rfl rfl ?_;rw[Fu (Ae _ _ _) A0l.1 A0l.2 rfl];exact .ret ⟨rfl,a.Ak (.inr (aC _)) E _⟩
 unfold Ak4;by_cases u:j<0
 ·have F:Fj (.tuple []) false=false/\Fj (.tuple []) true=false:=⟨rfl,rfl⟩
  simp only[u,aB,Aa,Ad,Ab7];rw[Az (l:=(Me.nil 0).cells) rfl,aK (by omega)];exact st _ 13
 simp only[u,aA,Aa,Ad];rw[Aj q rfl (v:=.slice ml 0 g.B.toNat g.B.toNat false) rfl];rw[show ∀k:EV->R,Hz (.slice ml 0 g.B.toNat g.B.toNat false) k=k (I g.B.toNat)from fun _=>rfl];simp only[I,Ad,Aa,Ab7];have hlen:=m.len;by_cases G:j<g.B
 ·obtain⟨n,rfl⟩:=bD (show 0<=j by omega)
  have A:n<es.length:=by omega
  have:decide ((n:Int)≥(g.B.toNat:Int))=false:=by simp;omega
  simp only[this,Aa,Al4];rw[Aj q rfl (v:=.slice ml 0 g.B.toNat g.B.toNat false) rfl,Mg (by omega),bC,Dj D rfl (Axm es A),aN (by omega)];rw[show(es[(n:Int).toNat]?).getD (Me.nil 0)=es[n] by rw[bK,aH A];rfl];exact st _ 0
 ·have:decide ((j:Int)≥(g.B.toNat:Int))=true:=by simp;omega
  simp only[this,Aa];rw[Az (l:=(Me.nil 0).cells) rfl,aK (by omega)];exact st _ 13
def Afm(g:Gm)(es:List Me)(z:Int):Int:=if 0<=z/\z<g.D*g.Z then V6 es z else 0
theorem Ax2(n:Nat)(f:Int->Int)(hj:j<n):((List.range n).map fun(z:Nat)=>I (f z))[j]? = some (I (f j)):=by
 rw[av,cF hj];rfl
theorem Vl{ll:Nat}(m:Q0 h b ml ll g es)(z:Int):E2 K (.ptr b 0) (I z) h=some (I (Afm g es z),h):=by
 simp only[E2,I,Aa,Ad];unfold Afm;by_cases a:z<0
 ·simp only[a,aB,Aa,Ad,Zg]
  rw[aK (by omega)]
 simp only[a,aA,Aa,Ad];rw[Aj m.map rfl (v:=.slice ll 0 (g.D*g.Z).toNat (g.D*g.Z).toNat false) rfl];rw[show ∀k:EV->R,Hz (.slice ll 0 (g.D*g.Z).toNat (g.D*g.Z).toNat false) k=k (I (g.D*g.Z).toNat)from fun _=>rfl];simp only[I,Ad,Aa,Zg];by_cases f:z<g.D*g.Z
 ·obtain⟨n,rfl⟩:=bD (show 0<=z by omega)
  have:decide ((n:Int)≥((g.D*g.Z).toNat:Int))=false:=by simp;omega
  simp only[this,Aa,Ajm];rw[Aj m.map rfl (v:=.slice ll 0 (g.D*g.Z).toNat (g.D*g.Z).toNat false) rfl,Mg (by omega),bC,bc,Aj m.live rfl (Ax2 (g.D*g.Z).toNat (V6 es) (j:=n) (by omega)),aN (by omega)]
 ·have:decide ((z:Int)≥((g.D*g.Z).toNat:Int))=true:=by simp;omega
  simp only[this,Aa];rw[aK (by omega)]
theorem A6o:∀(l l':List Int),l.length=l'.length->Fv (l.map I) (l'.map I)=some (decide (l=l'))
 | [],[],_=>rfl
 | a::l,b::l',h=>by
  have k:=A6o l l' (by simpa using h);rw[dB,dB];unfold Fv;rw[Atn];by_cases f:a=b
  ·subst f
   rw[aP rfl];simp only[k,List.cons.injEq,fS]
  ·rw[aQ f]
   simp only[k];rw[aQ fun y=>f (List.cons.inj y).1]
def Me.row(x:Me):List Int:=[x.state,x.An,x.Br,x.off,x.seq,x.sum]
theorem Me.Bl9 {y:Me}:x.row=y.row↔x=y:=by
 cases x;cases y;simp[Me.row]
theorem Bpa(x y:Me)(k:EV->R):Kv Ala (bin TT .eql 53) (.agg x.cells) (.agg y.cells) k=k (.bool (decide (x=y))):=by
 have he:TT.eqs 53=some [0,0,0,0,0,0]:=by kernel_rfl
 have a:Ave TT 53 (.agg x.cells) (.agg y.cells)=some (decide (x=y)):=by
  show(match TT.eqs 53 with|some sh=>Bb (shaped sh x.cells) (Fv x.cells y.cells) none|none=>none)=_;rw[he];simp only;rw[show shaped [0,0,0,0,0,0] x.cells=true from rfl,Al,show x.cells=x.row.map I from rfl,show y.cells=y.row.map I from rfl,A6o x.row y.row rfl];congr 1;rw[eK];exact Me.Bl9
 show oB k (match Ave TT 53 (.agg x.cells) (.agg y.cells)with|some b=>some (EV.bool b)|none=>none)=_;rw[a];rfl
theorem A5q(hb:HB h)(k:x.state=1->Tk x.An/\Tk x.Br):Ok (Jd K (.agg x.cells) (gV g) h) fun v h'=>v=.bool (meR g x)/\Ext h h':=by
 unfold meR;by_cases s1:x.state=1
 ·rw[aK (by omega),aN s1]
  exact Aqy hb s1 (k s1).1 (k s1).2
 ·simp only[Jd,gV,Aa]
  have f:Ext h ((h.new (.cells x.cells 53)).new (.cells (gL g) 23)):=(Ar.new _ _).Di _;have a:((h.new (.cells x.cells 53)).new (.cells (gL g) 23)).get h.next=some (.cells x.cells 53):=by
   rw[Ay _ (aE _)];exact Ac _ _
  generalize (h.new (.cells x.cells 53)).new (.cells (gL g) 23)=m at f a⊢;rw[Aj a rfl (v:=I x.state) rfl];simp only[I,Ad];have eq:∀s,x.state=s->Ok (Kz K (.ptr h.next 0) (.ptr (h.next+1) 0) (.int .i64 s) (.bool true) m) fun v h'=>v=.bool (decide (x=Me.nil x.state))/\Ext h h':=fun s hs=>by
   simp only[Kz,Aa];rw[C8 a rfl,Am (n:=6) rfl]
   try simp only[Aa]
   rw[Aj a rfl (v:=I x.state) rfl]
   try simp only[Aa]
   rw[Az (l:=(Me.nil x.state).cells) rfl,Bpa];exact .ret ⟨rfl,f⟩
  by_cases h0:x.state=0
  ·rw[aN (.inl h0)]
   simp only[h0,aB,Aa];have:=eq 0 h0;rw[h0]at this;exact this
  ·by_cases h2:x.state=2
   ·rw[aN (.inr h2)]
    simp only[h2,show ¬((2:Int)=0) by decide,aA,aB,Aa];have:=eq 2 h2;rw[h2]at this;exact this
   ·rw[aK (by omega),aK s1]
    simp only[h0,s1,h2,aA,Aa,Kz,Ad,Ac0];exact .ret ⟨rfl,f⟩
theorem Bf8 {α:Type}(f:Nat->α)(n j:Nat)(v:α):((List.range n).map f).set j v=(List.range n).map fun z=>if z=j then v else f z:=by
 apply eA;intro i;rw[List.getElem?_set,av,av];by_cases a:i<n
 ·rw[cF a]
  by_cases hj:j=i
  ·subst hj;simp[a]
  ·simp[hj,cN hj]
 ·rw[cA (by simpa using a)]
  simp only[bU,eI];split
  ·rw[aK (by omega)];rfl
  ·rfl
theorem Bi8(h:meR g x=true)(f:x.state=1):(0<=x.An/\x.An<g.D*g.Z)/\(0<=x.Br/\x.Br<g.D*g.Z)/\¬x.An=x.Br:=by
 unfold meR at h;rw[aK (by omega),aN f]at h;unfold meB Ae6 at h;simp only[bI,N2,bE]at h;obtain⟨⟨_,⟨a,b⟩,_⟩,⟨_,⟨c,d⟩,_⟩,e,_⟩:=h;exact⟨⟨a,by omega⟩,⟨c,by omega⟩,fun y=>e (by rw[y])⟩
def Bd9(f:Int->Int)(z v:Int):Int->Int:=fun y=>if y=z then v else f y
theorem Bci(n:Nat)(f:Int->Int)(j:Nat)(v:Int):((List.range n).map fun(z:Nat)=>I (f z)).set j (I v)=(List.range n).map fun(z:Nat)=>I (Bd9 f j v z):=by
 rw[Bf8];congr 1;funext z;unfold Bd9;by_cases h:z=j
 ·rw[aN h,aN (by omega)]
 ·rw[aK h,aK (by omega)]
theorem A73{ll:Nat}(hn:g.D*g.Z=n)(W:n<=512)(hm:h.get b=some (.cells (gL g++[.slice ml 0 g.B.toNat g.B.toNat false,.slice ll 0 n n false]) 143)){f:Int->Int}(U:h.get ll=some (.cells ((List.range n).map fun(z:Nat)=>I (f z)) 3))(hb:HB h)(X:meR g x=true){by':Int}(Y:by'=1\/by' = -1)(bd:∀z,-1000<=f z/\f z<=1000):
 Ok (R6 K (.ptr b 0) (.agg x.cells) (I by') h) fun v h'=>v=.tuple []/\h'.get ll=some (.cells ((List.range n).map fun(z:Nat)=>I (f z+by'*Ail z x)) 3)/\Ar (fun i=>i=ll) h h'/\HB h':=by
 simp only[R6,Aa];have C:Ext h (h.new (.cells x.cells 53)):=Ar.new _ _;have E:(h.new (.cells x.cells 53)).get h.next=some (.cells x.cells 53):=Ac _ _
 generalize h.new (.cells x.cells 53)=F at C E⊢;have m:=C.hb hb;have L:=C.at hb hm;have G:=C.at hb U;rw[Aj E rfl (v:=I x.state) rfl];simp only[I,Ad];by_cases s1:x.state=1
 ·obtain⟨⟨a0,a1⟩,⟨c0,c1⟩,ne⟩:=Bi8 X s1
  obtain⟨j,hj⟩:=bD a0;obtain⟨k,V⟩:=bD c0;have M:=m _ _ L;have O:=m _ _ E;have o:=m _ _ G;have B1:=bd j;have B2:=bd k;simp only[s1,aB,Aa,Aw];rw[Ah M (by kernel_rfl),Aj L rfl (v:=.slice ll 0 n n false) rfl]
  try simp only[Aa,Aw]
  rw[Ah O (by kernel_rfl),Aj E rfl (v:=I x.An) rfl,hj]
  try simp only[I,Aa,Aw]
  rw[Mg (by omega),bC,bc,Ah o (by kernel_rfl),Aj G rfl (Ax2 n f (j:=j) (by omega))];simp only[I,Ad,Aw];rw[Cn (by omega) (by omega),Mg (by omega),bC,bc,Kh (by kernel_rfl)];refine Ok.Zl G rfl rfl (by simp;omega) ?_;have p:(F.put ll (.cells (((List.range n).map fun(z:Nat)=>I (f z)).set j (I (f j+by'))) 3)).get ll=some (.cells ((List.range n).map fun(z:Nat)=>I (Bd9 f j (f j+by') z)) 3):=by rw[Ae,Bci]
  have J:Ar (fun i=>i=ll) F (F.put ll (.cells (((List.range n).map fun(z:Nat)=>I (f z)).set j (I (f j+by'))) 3)):=(Ar.refl (S:=fun i=>i=ll) F).Ak (.inl rfl) o _;have nb:b≠ll:=Be L G (by intro y;injection y with _ y;cases y);have n4:h.next≠ll:=fun y=>by have:=hb _ _ U;omega
  have u:=J.at m L nb;have A:=J.at m E n4;rw[show EV.int .i64 (f j+by')=I (f j+by')from rfl];generalize F.put ll (.cells (((List.range n).map fun(z:Nat)=>I (f z)).set j (I (f j+by'))) 3)=h2 at p J u A⊢;have q:=J.hb m;have M:=q _ _ u;have O:=q _ _ A;have o:=q _ _ p;have nk:¬(k:Int)=j:=by omega
  have fk:Bd9 f j (f j+by') k=f k:=by unfold Bd9;rw[aK nk]
  try simp only[Aw]
  rw[Ah M (by kernel_rfl),Aj u rfl (v:=.slice ll 0 n n false) rfl]
  try simp only[Aa,Aw]
  rw[Ah O (by kernel_rfl),Aj A rfl (v:=I x.Br) rfl,V]
  try simp only[I,Aa,Aw]
  rw[Mg (by omega),bC,bc,Ah o (by kernel_rfl),Aj p rfl (Ax2 n _ (j:=k) (by omega)),fk];simp only[I,Ad,Aw];rw[Cn (by omega) (by omega),Mg (by omega),bC,bc,Kh (by kernel_rfl)];refine Ok.Zl p rfl rfl (by simp;omega) ?_;refine .ret ⟨rfl,?_,(C.to.trans J).Ak (.inl rfl) o _,q.put o _⟩;rw[Ae];have:(EV.int .i64 (f k+by'))=I (f k+by'):=rfl;rw[this,Bci];congr 2;apply cY;intro z _;congr 1;unfold Bd9 Ail;rw[s1,hj,V];by_cases e1:(z:Int)=k
  ·rw[aN e1,aN ⟨rfl,.inr e1.symm⟩,e1];omega
  ·rw[aK e1]
   by_cases e2:(z:Int)=j
   ·rw[aN e2,aN ⟨rfl,.inl e2.symm⟩,e2];omega
   ·rw[aK e2,aK (fun y=>y.2.elim (fun a=>e2 a.symm) fun a=>e1 a.symm)];omega
 ·simp only[s1,aA,Aa]
  refine .ret ⟨rfl,?_,C.to,m⟩;rw[G];congr 2;apply cY;intro z _;unfold Ail;rw[aK (fun y=>s1 y.1),Int.mul_zero,Int.add_zero]
def Bod(g:Gm)(es:List Me)(j:Int)(x:Me):List Me × Int:=if 0<=j/\j<es.length then(if meR g x=true then(es.set j.toNat x,0)else(es,10))else(es,13)
theorem A9t{ll:Nat}(s:Sm g)(m:Q0 h b ml ll g es)(hb:HB h)(hz:x.state=1->Tk x.An/\Tk x.Br)(j:Int):
 Ok (K8 K (.ptr b 0) (I j) (.agg x.cells) h) fun v h'=>v=I (Bod g es j x).2/\Q0 h' b ml ll g (Bod g es j x).1/\Ar (fun i=>i=ml\/i=ll) h h'/\HB h':=by
 have:=s.b0;have:=s.b1;have:=s.d0;have:=s.d1;have:=s.z0;have:=s.z1;obtain⟨m0,m1⟩:=N1 (a:=g.D) (b:=g.Z) (A:=8) (B:=64) (by omega) (by omega) (by omega) (by omega);simp only[K8,Aa];have x1:Ext h (h.new (.cells x.cells 53)):=Ar.new _ _;have g5:(h.new (.cells x.cells 53)).get h.next=some (.cells x.cells 53):=Ac _ _
 generalize h.new (.cells x.cells 53)=h1 at x1 g5⊢;have J:=x1.hb hb;have M1:=m.ext fun i o q=>x1.at hb q
 refine(U0 (K:=K) s M1 J j).Ap ?_;rintro _ h2 ⟨rfl,x2⟩;have V:=x2.hb J;simp only[Aa];refine Ok.stA (Ac _ _) rfl rfl ?_;have x3:Ext h2 ((h2.new (.cells [EV.int .i64 0,.int .i64 0,.int .i64 0,.int .i64 0,.int .i64 0,.int .i64 0] 53)).put h2.next (.cells (Ak4 es j).1.cells 53)):=(Ar.new h2 _:Ext _ _).Ak (.inr (aC _)) (aE _) _;have g7:((h2.new (.cells [EV.int .i64 0,.int .i64 0,.int .i64 0,.int .i64 0,.int .i64 0,.int .i64 0] 53)).put h2.next (.cells (Ak4 es j).1.cells 53)).get h2.next=some (.cells (Ak4 es j).1.cells 53):=Ae _ _ _
 generalize (h2.new (.cells [EV.int .i64 0,.int .i64 0,.int .i64 0,.int .i64 0,.int .i64 0,.int .i64 0] 53)).put h2.next (.cells (Ak4 es j).1.cells 53)=h3 at x3 g7⊢
 have u:=x3.hb V;have L:Ext h h3:=(x1.trans x2).trans x3;have M3:=m.ext fun i o q=>L.at hb q
 have M:=x3.at V (x2.at J g5);unfold Bod;have hlen:=m.len;by_cases hj:0<=j/\j<es.length
 ·obtain⟨k,rfl⟩:=bD hj.1
  have hk:k<es.length:=by omega
  have eg:Ak4 es (k:Int)=(es[k],0):=by
   unfold Ak4;rw[aN hj,bK,aH hk];rfl
  rw[eg]at g7⊢;rw[aN hj];simp only[I,Ad,aD,aA,Aa,Aw];have l5:=u _ _ M;have lb:=u _ _ M3.map;rw[Ah l5 (by kernel_rfl),C8 M rfl,Am (n:=6) rfl]
  try simp only[Aa,Aw]
  rw[Ah lb (by kernel_rfl),Dj M3.map rfl (show Mh (gL g++[.slice ml 0 g.B.toNat g.B.toNat false,.slice ll 0 (g.D*g.Z).toNat (g.D*g.Z).toNat false]) 0 6=some (gL g)from rfl)]
  try simp only[Aa,Aw]
  rw[show EV.agg (gL g)=gV g from rfl];refine Ok.Ds (by kernel_rfl) (by kernel_rfl) (A5q (K:=K) (g:=g) (x:=x) (Du u) hz) (fun _ _ p=>p.2) ?_;rintro _ b7 h4 ⟨rfl,_⟩ _ x4;have E:=x4.hb u;have O:Ext h h4:=L.trans x4;have F:=m.ext fun i o q=>O.at hb q
  by_cases W:meR g x=true
  ·rw[aN W,W]
   simp only[Aa,Alp];have aw:=x4.at u g7;have ax:=x4.at u M;rw[C8 aw rfl,Am (n:=6) rfl]
   try simp only[Aa]
   have hn:g.D*g.Z=((g.D*g.Z).toNat:Int):=by omega
   have bd:∀z,-1000<=V6 es z/\V6 es z<=1000:=fun z=>by have:=As4 z es;omega
   refine(A73 (K:=K) (ml:=ml) hn (by omega) F.map F.live E (x:=es[k]) (m.ok _ (bF hk)) (by':=-1) (.inr rfl) bd).Ap ?_;rintro _ h5 ⟨rfl,ay,c5,G⟩;have nb:b≠ll:=Be F.map F.live (by intro y;injection y with _ y;cases y);have nm:ml≠ll:=Be F.row F.live (by intro y;injection y with _ y;cases y);have a1:b≠ml:=Be F.map F.row (by intro y;injection y with _ y;cases y);have X:h.next≠ll:=fun y=>by have:=hb _ _ m.live;omega
   have b8:h.next≠ml:=fun y=>by have:=hb _ _ m.row;omega
   have Y:=c5.at E F.map nb;have a2:=c5.at E F.row nm;have aa:=c5.at E ax X;rw[C8 aa rfl,Am (n:=6) rfl]
   try simp only[Aa]
   refine(A73 (K:=K) (ml:=ml) hn (by omega) Y ay G (x:=x) W (f:=fun z=>V6 es z + -1*Ail z es[k]) (by':=1) (.inl rfl) (fun z=>by
    show -1000<=V6 es z + -1*Ail z es[k]/\V6 es z + -1*Ail z es[k]<=1000;have:=As4 z es;have:=Ba3 z es[k];omega)).Ap ?_
   rintro _ h6 ⟨rfl,a7,c6,C⟩;have U:=c6.at G Y nb;have ab:=c6.at G a2 nm;have ad:=c6.at G aa X;have ba:=C _ _ U;have bb:=C _ _ ad;have bf:=C _ _ ab
   try simp only[Aw]
   rw[Ah ba (by kernel_rfl),Aj U rfl (v:=.slice ml 0 g.B.toNat g.B.toNat false) rfl]
   try simp only[Aa,Aw]
   rw[Ah bb (by kernel_rfl),C8 ad rfl,Am (n:=6) rfl]
   try simp only[Aa,Aw]
   rw[Mg (by omega),bC,Kh (by kernel_rfl)];have fs:Mf (es.map Me.cells).flatten (k*6) x.cells=some ((es.set k x).map Me.cells).flatten:=by
    rw[A1r (n:=6) (fun y hy=>by obtain⟨z,_,rfl⟩:=cJ.1 hy;rfl) (by rw[bU];exact hk) rfl,List.map_set]
   refine Ok.st _ ab rfl rfl fs ?_;have c7:Ar (fun i=>i=ml) h6 (h6.put ml (.cells ((es.set k x).map Me.cells).flatten 53)):=(Ar.refl (S:=fun i=>i=ml) h6).Ak (.inl rfl) bf _;have bk:=c7.at C U a1;have bn:=c7.at C a7 (cN nm);refine .ret ⟨rfl,⟨bk,Ae _ _ _,?_,by rw[bR];exact hlen,fun y hy=>?_⟩,?_,c7.hb C⟩
   ·rw[bn]
    congr 2;apply cY;intro z _;rw[bK,A0x z x es k hk];congr 1;omega
   ·rcases dF hy with y'|rfl
    ·exact m.ok _ y'
    ·exact W
   ·exact(Ext.to O).trans (((c5.mono fun i e=>.inr e).trans (c6.mono fun i e=>.inr e)).trans (c7.mono fun i e=>.inl e))
  ·have bo:meR g x=false:=by cases h:meR g x<;>simp_all
   rw[aK W,bo];simp only[Aa];exact .ret ⟨rfl,F,O.to,E⟩
 ·have eg:Ak4 es j=(Me.nil 0,13):=by unfold Ak4;rw[aK hj]
  rw[eg,aK hj];simp only[I,Ad,show ¬((13:Int)=0) by decide,aG,aB,Aa];exact .ret ⟨rfl,M3,L.to,u⟩
theorem A0a{z q:Nat}{size:Int}{Z:Zn}(f:Ft h z q size Z)(hb:HB h):
 Ok (G9 K (.ptr z 0) h) fun v h'=>v=I (Lr Z.st)/\Ft h' z q size (if Lr Z.st=0 then Zn.empty else Z)/\Ar (fun i=>i=z) h h'/\HB h':=by
 obtain⟨s,g,r⟩:=f.An;have a:=hb _ _ g;simp only[G9,Xy f,Aa,I,Ad];by_cases k:Lr Z.st=0
 ·simp only[k,aD,aA,Aa,bG,Ob]
  refine Ok.Zl g rfl rfl (by show 0<5;decide) ?_;refine Ok.Zl (Ae _ _ _) rfl rfl (by show 2<5;decide) ?_;refine Ok.Zl (Ae _ _ _) rfl rfl (by show 3<5;decide) ?_;refine Ok.Zl (Ae _ _ _) rfl rfl (by show 4<5;decide) ?_;refine .ret ⟨rfl,⟨⟨.Ao,Ae _ _ _,Ci.nil _ _ _ _⟩,fun x m=>by cases m⟩,((((Ar.refl (S:=fun i=>i=z) h).Ak (.inl rfl) a _).Ak (.inl rfl) a _).Ak (.inl rfl) a _).Ak (.inl rfl) a _,(((hb.put a _).put a _).put a _).put a _⟩
 ·simp only[k,aG,aB,Aa,aY]
  exact .ret ⟨rfl,f,Ar.refl _,hb⟩
noncomputable def Dv.reset(D:Dv)(i:Int):Dv × Int:=
 if D.Ff i≠0 then(D,D.Ff i)else
 (if Lr (D.zs i.toNat).st=0 then D.tick.set i.toNat Zn.empty else D.tick,Lr (D.zs i.toNat).st)
theorem Zn.Wf.empty {size:Nat}(h:0<size):Zn.empty.Wf size:=⟨fun x a=>(by cases a),by show 0<=4;omega,aC _,cU _,fun _=>h⟩
theorem A2x{V:Nat}{D:Dv}{F:Nat->Prop}(d:Hp h V D F)(hb:HB h)(hs:0<D.size)(i:Int):
 Ok (Rv K (.ptr V 0) (I i) h) fun v h'=>v=I (D.reset i).2/\Hp h' V (D.reset i).1 (Bh F h h')/\Ar F h h'/\HB h':=by
 simp only[Rv,dr];refine(Ad0 (K:=K) d hb i).Ap ?_;rintro _ h2 ⟨rfl,d2,c2,o,L⟩;unfold Dv.reset;by_cases f:D.Ff i=0
 ·rw[aK (by rw[f];exact fun y=>y rfl),f]
  have u:D.begin i=D.tick:=by unfold Dv.begin;rw[aN f]
  rw[u]at d2;obtain⟨j,rfl,hj⟩:=Dv.A4y f;obtain⟨zl,z,q,a,b⟩:=d2.N8;obtain⟨B,C⟩:=a.A7b (j:=j) hj;simp only[I,Ad,aD,aA,Aa,Aae,a.list,B,C];refine(A0a (K:=K) (a.An j hj) o).Ap ?_;rintro _ E ⟨rfl,A,c3,p⟩
  try simp only[Aa]
  rw[show(j:Int).toNat=j from rfl];have A:Ft E (z j) (q j) D.size (if Lr (D.zs j).st=0 then Zn.empty else D.zs j):=A;by_cases G:Lr (D.zs j).st=0
  ·simp only[G,bG]at A⊢
   obtain⟨d3,m⟩:=Hp.An d2.wf a b d2.lt o hj (Zn.Wf.empty hs) A (c3.mono fun _=>.inl) p (fun y=>absurd rfl y);refine .ret ⟨by rw[show Lr (D.tick.zs j).st=Lr (D.zs j).st from rfl,G],d3.mono (fun i J=>?_) (Bh.lt d.lt (c2.trans m).next),c2.trans m,p⟩;rcases J with y|y
   ·exact .inl y
   ·exact .inr ⟨bN c2.next y.1,y.2⟩
  ·simp only[G,aY]at A⊢
   obtain⟨d3,m⟩:=Hp.An d2.wf a b d2.lt o hj (d2.wf.zs j hj) A (c3.mono fun _=>.inl) p (fun y=>.inr ⟨rfl,y⟩);have e:D.tick.set j (D.zs j)=D.tick:=by
    unfold Dv.set;have:Aig D.tick.zs j (D.zs j)=D.tick.zs:=by funext k;unfold Aig;split<;>simp_all [Dv.tick]
    rw[this]
   have d3:Hp E V (D.tick.set j (D.zs j)) (Bh F h2 E):=d3;rw[e]at d3;refine .ret ⟨rfl,d3.mono (fun i J=>?_) (Bh.lt d.lt (c2.trans m).next),c2.trans m,p⟩;rcases J with y|y
   ·exact .inl y
   ·exact .inr ⟨bN c2.next y.1,y.2⟩
 ·rw[aN f]
  have u:D.begin i=D:=by unfold Dv.begin;rw[aK f]
  rw[u]at d2;simp only[I,Ad,f,aG,aB,Aa];exact .ret ⟨rfl,d2.grow d.lt c2.next,c2,o⟩
noncomputable def Mc.reset(S:Mc)(i:Int):Mc × Int:=({ S.begin i with dv:=((S.begin i).dv.reset i).1 },((S.begin i).dv.reset i).2)
theorem A3k(H:Ca disp)(L:1000<K)(hd:14<=d){D:Nat}{S:Mc}{G:Nat->Prop}(f:A4i disp K S)(s:F0 h D S G)(hb:HB h)(i:Int)(hs:0<(S.begin i).dv.size):
 Ok (Ag TT disp K d false 196 [.ptr D 0,I i] h) fun v h'=>v=I (S.reset i).2/\F0 h' D (S.reset i).1 (Bh G h h')/\Ar G h h'/\HB h':=by
 obtain⟨e,rfl⟩:∃k,d=k+1:=⟨d-1,by omega⟩;rw[Ani H (by omega)];simp only[Ai1,dr];refine(Adz (K:=K) H (by omega) f s hb i).Ap ?_;rintro _ h2 ⟨s2,c2,m⟩;unfold Mc.reset;generalize S.begin i=T at s2 hs⊢;obtain⟨V,M,qc,qh,cs,A,ms,F,a⟩:=s2.N8;simp only[Aa,Cy a.Dc rfl];refine(A2x (K:=K) a.dev m hs i).Ap ?_;rintro _ B ⟨rfl,d3,c3,o⟩;obtain⟨C,p⟩:=s2.put a m d3 c3;have u:=C.Bhk c2.next p.next s.lt
 have c4:=c2.grow p;simp only[I,Ad];by_cases he:(T.dv.reset i).2=0
 ·simp only[he,aB,Aa,X2]
  have E:(T.dv.reset i).1.size<=64:=d3.wf.size;refine(A7v (K:=K) i K 0 B (by show(T.dv.reset i).1.size-0<K;omega) u o).Ap ?_;rintro _ O ⟨J,c5,q⟩;simp only[T5,dr];refine .ret ⟨by rw[<-he],J.mono (fun j hj=>Bh.le c5.next hj) (Bh.lt s.lt (bN c4.next c5.next)),c4.grow c5,q⟩
 ·simp only[he,aA,Aa,T5]
  exact .ret ⟨rfl,u,c4,o⟩
theorem Ok.Bpz{s:DX}{call:Ab->R}{k:EV->Ab->DX->R}{P:EV->Ab->Prop}(hb:Al7 b s=true)(A:Ok (call (K0 b s h)) P)(he:∀v a,P v a->Ext (K0 b s h) a)
 (B:∀v a h2,P v a->(∀i,h2.get i=if i∈loose b s.nw then h.get i else a.get i)->h2.next=a.next->Ext h h2->Ok (k v h2 (s.big i)) Q):Ok (Ev.Ds i b s h call k) Q:=by
 obtain⟨v,a,e,p⟩:=A;have x:=he v a p;have hm:h.next<=a.mw:=x.mw h.next (aC _) (aC _) fun _ y=>y.elim
 have u:∀j,(K0 b s h).get j=if j∈loose b s.nw then none else h.get j:=fun j=>by rw[Afk];exact(Aq8 _ _ _).trans (by rw[Afk])
 have C:Ev.Ds i b s h call k=k v ⟨Ab9 h.t a.t (loose b s.nw),a.next,h.mw⟩ (s.big i):=by
  show Bb (Al7 b s) (Ev.Ap (call (K0 b s h)) fun v h'=>Po i b s h h' fun s h=>k v h s) none=_;rw[hb,Al,e];show Po i b s h a (fun s h=>k v h s)=_;unfold Po;rw[aR hm,Al]
 rw[C];have m:∀j,(⟨Ab9 h.t a.t (loose b s.nw),a.next,h.mw⟩:Ab).get j=if j∈loose b s.nw then h.get j else a.get j:=fun j=>by
  rw[Afk];exact(Ar8 _ _ _ _).trans (by rw[Afk,Afk])
 refine B v a _ p m rfl ⟨fun j hj D=>?_,x.next,fun w w1 _ _=>w1,fun y q o f=>?_⟩
 ·rw[m]
  split
  ·rfl
  ·rename_i E
   rw[x.get j hj D,u,aK E]
 ·rw[m]at f
  split at f
  ·exact aL (y q o f) x.next
  ·exact x.hb (fun q o f=>by
    rw[u]at f;split at f
    ·cases f
    ·exact y q o f) q o f
theorem Aux {z:List EV}(a:n<=65536)(h:Ab):Vb z e (I n) (I n) h=some (.slice h.next 0 n n false,h.new (.cells (rep z n) e)):=by
 show Bb (Nat.ble n n) (Bb (Nat.ble n 65536) _ none) none=_;rw[aR (aC _),Al,aR a,Al]
theorem Asv:∀(Cr new:List EV),new.length<=Cr.length->Jt Cr new=some (new++Cr.drop new.length)
 | Cr,[],_=>by cases Cr<;>rfl
 | [],b::r,h=>by simp at h
 | a::Cr,b::r,h=>by
  show(match Jt Cr r with|some x=>some (b::x)|none=>none)=_;rw[Asv Cr r (by simpa using h)];rfl
theorem Bey{m r:Nat}{op:Bool}{t:TypeId}{Cr new:List EV}(g:h.get i=some (.cells Cr t))(k:lenOf y=some n)(p:0<n)(hm:n<=m)(f:O1 h 1 n y=some new)(o:new.length=n)(q:Cr.length=m):
 builtin TT .copy #[184,184] [.slice i 0 m r op,y] h=some (I n,h.put i (.cells (new++Cr.drop n) t)):=by
 have hu:TT.Tv 184=some (.slice 5):=by kernel_rfl
 have hs:TT.size 5=some 1:=by kernel_rfl
 have hb:Nat.ble n m=true:=aR hm;have h0:Nat.beq n 0=false:=by cases n with|zero=>omega|succ n=>rfl
 have hw:L9 h i 0 new=some (h.put i (.cells (new++Cr.drop n) t)):=by
  unfold L9;rw[g];simp only;have:F6 Cr 0 new=Jt Cr new:=by cases Cr<;>rfl
  rw[this,Asv Cr new (by omega),o]
 rw[Apk]at f;have a:lenOf (.slice i 0 m r op)=some m:=rfl;unfold builtin;simp only[hu,hs,a,k,hb,Al,h0,Bl,f,hw];rfl
structure Bik(h:Ab)(P t:Nat)(out:List Nat)(S:Nat->Prop):Prop where
 N8:∃s q,h.get P=some (.cells [s,.bool false] t)/\Ci h s q 5 1 out.length (Bc out)/\(0<out.length->P≠q/\S q)
 own:S P
theorem Bga {w:Nat}{a:Nat}(B:a<9223372036854775808)(hw:w<=7){out:List Nat}(C:out.length<=60000)(h0:Ab)(hS:∀i,h0.next<=i->S i):∀(m i:Nat) (h:Ab),w-i<m->i<=w->HB h->Ar S h0 h->Bik h P t (out++Uh i a) S ->
 Ok (Jh K m (.ptr P 0) (Nk .i64 (a/256^i)) (I w) (I i) h) fun _ h'=>Bik h' P t (out++Uh w a) S/\Ar S h0 h'/\HB h':=by
 intro m;induction m with
 | zero=>intro i h hm;omega
 | succ m u=>
  intro i h hm D hb c p;obtain⟨s,q,g,r,l⟩:=p.N8;simp only[Jh,I,Ad,Aa];by_cases f:(i:Int)<w
  ·simp only[f,aB,Aa,Zw,Cy g rfl]
   rw[wrap_u8];have hlen:(out++Uh i a).length=out.length+i:=by rw[aF,H7]
   refine N9 (z:=[.int .u8 0]) r hb rfl rfl rfl (by omega) (by omega) ?_;intro h2 A E c2;have k:=c2.at hb g fun y=>(l y.1).1 y.2
   have o:=(c2.hb hb) _ _ k;refine Ok.Zl k rfl rfl (by show 0<2;decide) ?_;rw[Ao8];simp only[Zb,I,Ad];rw[Cn (by omega) (by omega),eP,<-eE];have c3:Ar S h (h2.put P (.cells ([s,EV.bool false].set 0 (.slice (h.next+1) 0 ((out++Uh i a).length+1) ((out++Uh i a).length+1) true)) t)):=(c2.mono fun j hj=>hj.2▸(l hj.1).2).Ak (.inl p.own) o _;refine u (i+1) _ (by omega) (by omega) ((c2.hb hb).put o _) (c.trans c3) ?_;rw[Ayh,<-br];have lt:=hb _ _ g;refine⟨⟨_,h.next+1,Ae _ _ _,?_,fun _=>⟨by omega,hS _ (by have:=c.next;omega)⟩⟩,p.own⟩;have e1:((out++Uh i a)++[a/256^i%256]).length=(out++Uh i a).length+1:=by rw[aF];rfl
   have e2:Bc ((out++Uh i a)++[a/256^i%256])=Bc (out++Uh i a)++EV.cells (Nk .u8 (a/256^i%256)):=by rw[Aty];rfl
   rw[e1,e2];exact A.frame fun _=>Af _ (by omega)
  ·have:i=w:=by omega
   subst this;simp only[f,aA,Aa];exact .ret ⟨p,c,hb⟩
def Ain(h:Ab)(P n:Nat)(S:Nat->Prop):Prop:=∃out,Bik h P 350 out S/\out.length=n/\∀b∈out,b<256
theorem Ain.chg(p:Ain h P n S)(hb:HB h)(c:Ar T h h')(no:∀i,S i->i<h.next->¬T i):Ain h' P n S:=by
 obtain⟨out,⟨⟨s,q,g,r,l⟩,o⟩,b⟩:=p;exact⟨out,⟨⟨s,q,c.at hb g (no _ o (hb _ _ g)),r.frame fun y=>c.get _ (hb _ _ (r.block y)) (no _ (l y).2 (hb _ _ (r.block y))),l⟩,o⟩,b⟩
theorem Ain.mono(p:Ain h P n S)(s:∀i,S i->T i):Ain h P n T:=by
 obtain⟨out,⟨⟨e,q,g,r,l⟩,o⟩,b⟩:=p;exact⟨out,⟨⟨e,q,g,r,fun y=>⟨(l y).1,s _ (l y).2⟩⟩,s _ o⟩,b⟩
def Bnp(S:Nat->Prop)(h:Ab):Nat->Prop:=fun i=>S i\/h.next<=i
theorem Bi7 {w:Nat}(u:1000<K)(p:Ain h P n S)(hb:HB h)(D:n<=1000)(A:1<=w)(o:w<=7)(v0:0<=v)(E:v<=9223372036854775807)(F:v<(256^w:Nat)):
 Ok (Eg K (.ptr P 0) (.int .i64 w) (.int .i64 v) h) fun _ h'=>Ain h' P (n+w) (Bnp S h)/\Ar S h h'/\HB h':=by
 obtain⟨out,p,B,hu⟩:=p.mono (T:=Bnp S h) fun i=>.inl
 obtain⟨a,rfl⟩:=bD v0;have k:a<9223372036854775808:=by omega
 have q:=(A1k k A o).2 (by omega);simp only[Eg,dr];have cw:=Ab6 (K:=K) (w:Int) h;simp only[I]at cw;rw[cw,aP ⟨by omega,by omega⟩];simp only[Aa,Ad];have wp:=A08 (K:=K) k u h;rw[show(EV.int .i64 (a:Int))=.int .i64 (Int.ofNat a)from rfl,wp,Au];simp only[Nk,Ad];rw[show decide ((w:Int)<Int.ofNat (Aem a))=false from aQ (by show ¬(w:Int)<((Aem a:Nat):Int);omega)];simp only[Aa,O5,Zk];have:=Bga (K:=K) (P:=P) (t:=350) (w:=w) k o (out:=out) (by omega) (S:=Bnp S h) h (fun i=>.inr) K 0 h (by omega) (cU _) hb (Ar.refl _) (by simpa [Uh]using p);rw[Nat.pow_zero,Nat.div_one]at this;refine this.mono ?_;rintro _ h' ⟨C,c,m⟩;exact⟨⟨_,C,by rw[aF,H7,B],fun b hb=>by
  rcases bL.1 hb with y|y
  ·exact hu b y
  ·exact Za _ _ b y⟩,⟨fun i f hs=>c.get i f fun y=>by
   rcases y with y|y
   ·exact hs y
   ·omega,c.next,fun w1 e1 e2 e3=>c.mw w1 e1 e2 fun i f=>by
   rcases f with f|f
   ·exact e3 i f
   ·omega,c.hb⟩,m⟩
theorem A4z(o:S h.next):Ain (h.new (.cells [.Ao,.bool false] 350)) h.next 0 S:=⟨[],⟨⟨.Ao,0,Ac _ _,Ci.nil _ _ _ _,fun y=>absurd y (bS _)⟩,o⟩,rfl,fun b hb=>by cases hb⟩
def Arw(v:EV):Prop:=∃l:List Nat,v=.agg (Bc l)/\l.length=44/\∀b∈l,b<256
theorem Aub(p:Ain h P n S)(hb:HB h)(h0:0<n)(X:n<=44):Ok (Ajr K (.ptr P 0) h) fun v h'=>Arw v/\Ext h h'/\HB h':=by
 obtain⟨out,a,E,hu⟩:=p;simp only[Ajr,Aa];rw[show(h.new (.cells (List.replicate 44 (EV.int .u8 0)) 245)).next=h.next+1 from rfl];have u:Ext h ((h.new (.cells (List.replicate 44 (EV.int .u8 0)) 245)).new (.cells (List.replicate 44 (EV.int .u8 0)) 245)):=(Ar.new _ _).Di _;have F:((h.new (.cells (List.replicate 44 (EV.int .u8 0)) 245)).new (.cells (List.replicate 44 (EV.int .u8 0)) 245)).get h.next=some (.cells (List.replicate 44 (EV.int .u8 0)) 245):=by
  rw[Ay _ (aE _)];exact Ac _ _
 have A:((h.new (.cells (List.replicate 44 (EV.int .u8 0)) 245)).new (.cells (List.replicate 44 (EV.int .u8 0)) 245)).get (h.next+1)=some (.cells (List.replicate 44 (EV.int .u8 0)) 245):=Ac _ _;generalize (h.new (.cells (List.replicate 44 (EV.int .u8 0)) 245)).new (.cells (List.replicate 44 (EV.int .u8 0)) 245)=h1 at u F A⊢;have f:=u.hb hb;obtain⟨⟨s,q,g,r,l⟩,_⟩:=a;refine(Avx (K:=K) (u.at hb g) (r.frame fun y=>u.get _ (hb _ _ (r.block y)) id) f (by omega)).Ap ?_;rintro _ h2 ⟨y,q',rfl,Y,G,J,lq⟩;have F:=G.at f F;have A:=G.at f A;simp only[Aa];rw[show ∀k:EV->R,Qi 44 1 (.ptr (h.next+1) 0) none none none k=k (.slice (h.next+1) 0 44 44 false)from fun k=>rfl];have B:=Y.bs (by omega);have L:=Bey (h:=h2) (i:=h.next+1) (n:=n) (m:=44) (r:=44) (op:=false) (t:=245) (Cr:=List.replicate 44 (EV.int .u8 0)) A (by rw[<-E];exact B.len) h0 X (by rw[<-E];exact B.cells) (by rw[Bi,E]) (by simp);rw[L,Au];have Z:=J _ _ A;have ee:Bc out++(List.replicate 44 (EV.int .u8 0)).drop n=Bc (out++List.replicate (44-n) 0):=by
  rw[Aty,List.drop_replicate];unfold Bc;rw[fJ];rfl
 rw[ee];have o:(out++List.replicate (44-n) 0).length=44:=by rw[aF,bT,E];omega
 have C:∀b∈out++List.replicate (44-n) 0,b<256:=fun b hb=>by
  rcases bL.1 hb with y|y
  ·exact hu b y
  ·rw[bZ y];decide
 generalize out++List.replicate (44-n) 0=l at o C⊢;have V:(h2.put (h.next+1) (.cells (Bc l) 245)).get (h.next+1)=some (.cells (Bc l) 245):=Ae _ _ _;have M:(h2.put (h.next+1) (.cells (Bc l) 245)).get h.next=some (.cells (List.replicate 44 (EV.int .u8 0)) 245):=by rw[Af _ (by omega)];exact F
 have O:=u.trans G;have U:=O.Ak (i:=h.next+1) (.inr (by omega)) Z (.cells (Bc l) 245);generalize h2.put (h.next+1) (.cells (Bc l) 245)=h5 at V M U⊢;have D:=U.hb hb;have ul:(Bc l).length=44:=by rw[Bi,o]
 rw[C8 V rfl,Am ul];simp only[G8];have W:=D _ _ M;refine Ok.st (Bc l) M rfl (by show F9 (Bc l)=44;rw[Bf,ul]) (Bm (by show(List.replicate 44 (EV.int .u8 0)).length=(Bc l).length;rw[ul,bT])) ?_;rw[Vi (Ae _ _ _) A0y.1 A0y.2 ul];exact .ret ⟨⟨l,rfl,o,C⟩,U.Ak (.inr (aC _)) W _,D.put W _⟩
theorem A43{z:List EV}{v:EV}(k:Arw v)(a:h.get i=some (.cells z 245))(m:z.length=44)(x:Ext h0 h)(hb:HB h)(o:h0.next<=i):Ok (stE 44 (.ptr i 0) v h fun h=>I9 TT [.c (.ptr i 0) 245] h) fun v h'=>Arw v/\Ext h0 h'/\HB h':=by
 obtain⟨l,rfl,f,hu⟩:=k;have ul:(Bc l).length=44:=by rw[Bi,f]
 have lt:=hb _ _ a;refine Ok.st (Bc l) a rfl (by show F9 (Bc l)=44;rw[Bf,ul]) (Bm (by show z.length=(Bc l).length;rw[ul,m])) ?_;rw[Vi (Ae _ _ _) A0y.1 A0y.2 ul];exact .ret ⟨⟨l,rfl,f,hu⟩,x.Ak (.inr o) lt _,hb.put lt _⟩
theorem A8b:∀(l:List (List EV)) (j:Nat) (x:List EV),(∀x∈l,x.length=n)->l[j]? = some x->Mh l.flatten (j*n) n=some x:=by
 have len:∀l:List (List EV),(∀x∈l,x.length=n)->l.flatten.length=l.length*n:=fun l=>by
  induction l with
  | nil=>intro _;simp
  | cons a r k=>intro h;rw[bm,aF,h a (aV ..),k fun x f=>h x (aT _ f),bH,eS];omega
 intro l j x m f;have hj:=(bA.1 f).1;rw[Fc (by rw[len l m];have:=Nat.mul_le_mul_right n (show j+1<=l.length from hj);rw[eS]at this;exact this)];congr 1;induction l generalizing j with
 | nil=>cases f
 | cons a r k=>
  have o:=m a (aV ..);cases j with
  | zero=>
   rw[bM]at f;cases f;rw[fG,dA,bm,<-o,dI]
  | succ j=>
   rw[b9]at f;rw[bm,eS,show j*n+n=a.length+j*n by omega,<-cW,dE];exact k j (fun x f=>m x (aT _ f)) f (bA.1 f).1
theorem Ok.stW{z:List EV}(f:h.get i=some (.cells z t))(k:z.length=n)(a:xs.length=n)(m:Ok (kk (h.put i (.cells xs t))) Q):Ok (stE n (.ptr i 0) (.agg xs) h kk) Q:=
 Ok.st xs f rfl (by show F9 xs=n;rw[Bf,a]) (Bm (by show z.length=xs.length;rw[a,k])) m
theorem Ain.less(p:Ain h P n S)(hb:HB h)(t:∀i,S i->i<h.next->T i):Ain h P n T:=by
 obtain⟨out,⟨⟨e,q,g,r,l⟩,o⟩,b⟩:=p;exact⟨out,⟨⟨e,q,g,r,fun y=>⟨(l y).1,t _ (l y).2 (hb _ _ (r.block y))⟩⟩,t _ o (hb _ _ g)⟩,b⟩
theorem Rp {w:Nat}(k:1000<K)(p:Ain h P n S)(hb:HB h)(hS:∀i,h.next<=i->S i)(m:n<=1000)(o:1<=w)(q:w<=7)(v0:0<=v)(u:v<=9223372036854775807)(A:v<(256^w:Nat)):
 Ok (Eg K (.ptr P 0) (.int .i64 w) (.int .i64 v) h) fun _ h'=>Ain h' P (n+w) S/\Ar S h h'/\HB h'/\∀i,h'.next<=i->S i:=
 (Bi7 k p hb m o q v0 u A).mono fun _ _ ⟨a,c,b⟩=>⟨a.mono fun i f=>f.elim id (hS i),c,b,fun i f=>hS i (bN c.next f)⟩
theorem Af4{ll:Nat}(m:Q0 h b ml ll g es)(hb:HB h):Ok (Nz K (.ptr b 0) h) fun v h'=>v=gV g/\Ext h h'/\HB h':=by
 simp only[Nz,Aa];have a:Ext h (h.new (.cells [EV.int .i64 0,.int .i64 0,.int .i64 0,.int .i64 0,.int .i64 0,.int .i64 0] 23)):=Ar.new _ _;have k:=a.hb hb;rw[C8 (a.at hb m.map) rfl,show Mh (gL g++[.slice ml 0 g.B.toNat g.B.toNat false,.slice ll 0 (g.D*g.Z).toNat (g.D*g.Z).toNat false]) 0 6=some (gL g)from rfl];simp only[Aa];refine Ok.st (gL g) (Ac _ _) rfl rfl (Bm rfl) ?_;rw[Vi (Ae _ _ _) Blt.1 Blt.2 rfl];have f:=a.Ak (i:=h.next) (.inr (aC _)) (aE _) (.cells (gL g) 23);exact .ret ⟨rfl,f,f.hb hb⟩
theorem Bht(s:Sm g)(h:meR g x=true):(0<=x.state/\x.state<=2)/\(0<=x.An/\x.An<=511)/\(0<=x.Br/\x.Br<=511)/\(0<=x.off/\x.off<=63)/\(0<=x.seq/\x.seq<=281474976710655)/\(0<=x.sum/\x.sum<=4294967295):=by
 have:=s.d0;have:=s.d1;have:=s.z0;have:=s.z1;have:=s.s1;obtain⟨m,o⟩:=N1 (a:=g.D) (b:=g.Z) (A:=8) (B:=64) (by omega) (by omega) (by omega) (by omega);unfold meR at h;split at h
 ·rename_i h0
  rw[cP h];unfold Me.nil;refine⟨?_,?_,?_,?_,?_,?_⟩<;>simp only<;>omega
 ·split at h
  ·unfold meB Ae6 at h
   simp only[bI,N2,bE]at h;obtain⟨⟨_,⟨a,b⟩,c,d⟩,⟨_,⟨e,f⟩,_⟩,_,i,j,k,l⟩:=h;refine⟨?_,?_,?_,?_,?_,?_⟩<;>omega
  ·cases h
theorem A76(h:∀x∈es,meR g x=true)(j:Int):meR g (Ak4 es j).1=true:=by
 have n0:meR g (Me.nil 0)=true:=by unfold meR;rw[aN (.inl rfl)];exact aP rfl
 unfold Ak4;split
 ·cases a:es[j.toNat]? with
  | none=>exact n0
  | some y=>exact h y (dK a)
 ·exact n0
theorem A57(sm:Sm g)(U:meR g x=true)(f:1000<K)(p:Ain h P n S)(hb:HB h)(hS:∀i,h.next<=i->S i)(hn:n<=900):
 Ok (Atw K (.ptr P 0) (.agg x.cells) h) fun _ h'=>Ain h' P (n+16) S/\Ar S h h'/\HB h'/\∀i,h'.next<=i->S i:=by
 obtain⟨b1,b2,b3,b4,b5,b6⟩:=Bht sm U;simp only[Atw,Aa];have B:Ext h (h.new (.cells x.cells 53)):=Ar.new _ _;have C:(h.new (.cells x.cells 53)).get h.next=some (.cells x.cells 53):=Ac _ _
 have V:(h.new (.cells x.cells 53)).next=h.next+1:=rfl
 generalize h.new (.cells x.cells 53)=F at B C V⊢;have m:=B.hb hb;have t1:∀i,F.next<=i->S i/\i≠h.next:=fun i k=>⟨hS i (by omega),by omega⟩
 have p1:Ain F P n (fun i=>S i/\i≠h.next):=(p.less hb (T:=fun i=>S i/\i≠h.next) fun i a b=>⟨a,by omega⟩).chg hb B fun _ _ _=>id
 rw[Aj C rfl (v:=I x.state) rfl];refine(Rp f p1 m t1 (by omega) (w:=1) (by omega) (by omega) (v:=x.state) (by omega) (by omega) (by omega)).Ap ?_;rintro _ h2 ⟨W,c2,o,t2⟩;have G:=c2.at m C fun y=>y.2 rfl
 rw[Aj G rfl (v:=I x.An) rfl];refine(Rp f W o t2 (by omega) (w:=2) (by omega) (by omega) (v:=x.An) (by omega) (by omega) (by omega)).Ap ?_;rintro _ h3 ⟨X,c3,q,t3⟩;have J:=c3.at o G fun y=>y.2 rfl
 rw[Aj J rfl (v:=I x.Br) rfl];refine(Rp f X q t3 (by omega) (w:=2) (by omega) (by omega) (v:=x.Br) (by omega) (by omega) (by omega)).Ap ?_;rintro _ h4 ⟨Y,c4,u,t4⟩;have L:=c4.at q J fun y=>y.2 rfl
 rw[Aj L rfl (v:=I x.off) rfl];refine(Rp f Y u t4 (by omega) (w:=1) (by omega) (by omega) (v:=x.off) (by omega) (by omega) (by omega)).Ap ?_;rintro _ h5 ⟨Z,c5,A,t5⟩;have M:=c5.at u L fun y=>y.2 rfl
 rw[Aj M rfl (v:=I x.seq) rfl];refine(Rp f Z A t5 (by omega) (w:=6) (by omega) (by omega) (v:=x.seq) (by omega) (by omega) (by omega)).Ap ?_;rintro _ h6 ⟨p6,O,D,t6⟩;have g6:=O.at A M fun y=>y.2 rfl
 rw[Aj g6 rfl (v:=I x.sum) rfl];refine(Rp f p6 D t6 (by omega) (w:=4) (by omega) (by omega) (v:=x.sum) (by omega) (by omega) (by omega)).Ap ?_;rintro _ h7 ⟨p7,c7,E,t7⟩;exact .ret ⟨p7.mono fun i k=>k.1,(B.mono fun _=>False.elim).trans (((((c2.trans c3).trans c4).trans c5).trans O).trans c7|>.mono fun i k=>k.1),E,fun i k=>(t7 i k).1⟩
theorem A4n(L:1000<K){ll:Nat}(s:Sm g)(m:Q0 h b ml ll g es)(hb:HB h){x:EV}(q0:0<=sq)(q1:sq<=281474976710655):
 Ok (Apq K (.agg [x,y,I sq,.ptr b 0]) h) fun v h'=>Arw v/\Ext h h'/\HB h':=by
 simp only[Apq,Aa];have M:Ext h ((h.new (.cells [x,y,I sq,.ptr b 0] 163)).new (.cells (List.replicate 44 (.int .u8 0)) 245)):=(Ar.new _ _).Di _;have g1:((h.new (.cells [x,y,I sq,.ptr b 0] 163)).new (.cells (List.replicate 44 (.int .u8 0)) 245)).get h.next=some (.cells [x,y,I sq,.ptr b 0] 163):=by rw[Ay _ (aE _)];exact Ac _ _
 have f1:((h.new (.cells [x,y,I sq,.ptr b 0] 163)).new (.cells (List.replicate 44 (.int .u8 0)) 245)).get (h.next+1)=some (.cells (List.replicate 44 (.int .u8 0)) 245):=Ac _ _;have n1:((h.new (.cells [x,y,I sq,.ptr b 0] 163)).new (.cells (List.replicate 44 (.int .u8 0)) 245)).next=h.next+2:=rfl
 generalize (h.new (.cells [x,y,I sq,.ptr b 0] 163)).new (.cells (List.replicate 44 (.int .u8 0)) 245)=h1 at M g1 f1 n1⊢;have U:=M.hb hb;rw[Aj g1 rfl (v:=.ptr b 0) rfl];refine(Af4 (K:=K) (m.frame (M.get _ (hb _ _ m.map) id) (M.get _ (hb _ _ m.row) id) (M.get _ (hb _ _ m.live) id)) U).Ap ?_;rintro _ h2 ⟨rfl,x2,V⟩;have g2:=x2.at U g1;have f2:=x2.at U f1;refine Ok.stW (xs:=gL g) (Ac _ _) rfl rfl ?_;rw[Az (l:=[.Ao,.bool false]) rfl];simp only[Aa];have x3:Ext h2 ((h2.new (.cells [EV.int .i64 0,.int .i64 0,.int .i64 0,.int .i64 0,.int .i64 0,.int .i64 0] 23)).put h2.next (.cells (gL g) 23)):=(Ar.new h2 _:Ext _ _).Ak (.inr (aC _)) (aE _) _;have e3:((h2.new (.cells [EV.int .i64 0,.int .i64 0,.int .i64 0,.int .i64 0,.int .i64 0,.int .i64 0] 23)).put h2.next (.cells (gL g) 23)).get h2.next=some (.cells (gL g) 23):=Ae _ _ _
 have n3:((h2.new (.cells [EV.int .i64 0,.int .i64 0,.int .i64 0,.int .i64 0,.int .i64 0,.int .i64 0] 23)).put h2.next (.cells (gL g) 23)).next=h2.next+1:=rfl
 generalize (h2.new (.cells [EV.int .i64 0,.int .i64 0,.int .i64 0,.int .i64 0,.int .i64 0,.int .i64 0] 23)).put h2.next (.cells (gL g) 23)=o at x3 e3 n3⊢
 have p:=x3.hb V;have x4:Ext o (o.new (.cells [.Ao,.bool false] 350)):=Ar.new _ _;have p4:Ain (o.new (.cells [.Ao,.bool false] 350)) o.next 0 (fun i=>o.next<=i):=A4z (aC _)
 have n4:(o.new (.cells [.Ao,.bool false] 350)).next=o.next+1:=rfl
 generalize o.new (.cells [.Ao,.bool false] 350)=h4 at x4 p4 n4⊢;have q:=x4.hb p;have g4:=x4.at p (x3.at V g2);have f4:=x4.at p (x3.at V f2);have e4:=x4.at p e3;have l1:=x2.next
 have W:¬o.next<=h.next:=by omega
 have X:¬o.next<=h.next+1:=by omega
 have Y:¬o.next<=h2.next:=by omega
 have:=s.d0;have:=s.d1;have:=s.z0;have:=s.z1;have:=s.s0;have:=s.s1;have:=s.b0;have:=s.b1;have:=s.p0;have:=s.p1;have:=s.o0;have:=s.o1;have t4:∀i,h4.next<=i->o.next<=i:=fun i hi=>by omega
 rw[Aj g4 rfl (v:=I sq) rfl];refine(Rp L p4 q t4 (by omega) (w:=6) (by omega) (by omega) (v:=sq) (by omega) (by omega) (by omega)).Ap ?_;rintro _ h5 ⟨p5,c5,u,t5⟩;have g5:=c5.at q g4 W;have f5:=c5.at q f4 X;have e5:=c5.at q e4 Y;rw[Aj e5 rfl (v:=I g.D) rfl];refine(Rp L p5 u t5 (by omega) (w:=1) (by omega) (by omega) (v:=g.D) (by omega) (by omega) (by omega)).Ap ?_;rintro _ h6 ⟨p6,c6,A,t6⟩;have g6:=c6.at u g5 W;have f6:=c6.at u f5 X;have e6:=c6.at u e5 Y;rw[Aj e6 rfl (v:=I g.Z) rfl];refine(Rp L p6 A t6 (by omega) (w:=1) (by omega) (by omega) (v:=g.Z) (by omega) (by omega) (by omega)).Ap ?_;rintro _ h7 ⟨p7,c7,C,t7⟩;have g7:=c7.at A g6 W;have f7:=c7.at A f6 X;have e7:=c7.at A e6 Y;rw[Aj e7 rfl (v:=I g.S) rfl];refine(Rp L p7 C t7 (by omega) (w:=1) (by omega) (by omega) (v:=g.S) (by omega) (by omega) (by omega)).Ap ?_;rintro _ h8 ⟨p8,c8,E,t8⟩;have g8:=c8.at C g7 W;have f8:=c8.at C f7 X;have e8:=c8.at C e7 Y;rw[Aj e8 rfl (v:=I g.B) rfl];refine(Rp L p8 E t8 (by omega) (w:=2) (by omega) (by omega) (v:=g.B) (by omega) (by omega) (by omega)).Ap ?_;rintro _ h9 ⟨p9,c9,F,t9⟩;have g9:=c9.at E g8 W;have f9:=c9.at E f8 X;have e9:=c9.at E e8 Y;rw[Aj e9 rfl (v:=I g.P) rfl];refine(Rp L p9 F t9 (by omega) (w:=1) (by omega) (by omega) (v:=g.P) (by omega) (by omega) (by omega)).Ap ?_;rintro _ bp ⟨ao,G,f,t10⟩;have aq:=G.at F g9 W;have f10:=G.at F f9 X;have e10:=G.at F e9 Y;rw[Aj e10 rfl (v:=I g.O) rfl];refine(Rp L ao f t10 (by omega) (w:=1) (by omega) (by omega) (v:=g.O) (by omega) (by omega) (by omega)).Ap ?_;rintro _ bt ⟨au,k,J,t11⟩;have bu:=k.at f aq W;have f11:=k.at f f10 X;have e11:=k.at f e10 Y;refine(Aub au J (by omega) (by omega)).Ap ?_;rintro v aw ⟨hv,ad,ae⟩;have x5:Ext h h4:=((M.trans x2).trans x3).trans x4;have k:=((((((c5.trans c6).trans c7).trans c8).trans c9).trans G).trans k);have x:Ext h aw:=(x5.then k fun i a b=>by have:=M.next;omega).trans ad;exact A43 hv (ad.at J f11) (by simp) x ae (by show h.next<=h.next+1;omega)
theorem Azq(J:1000<K){h4:Ab}{ll n3 r:Nat}(s:Sm g){l:List EV}(L:l[3]? = some (.ptr b 0)){j:Int}(j0:1<=j)(j1:j<=255)(M:∀h,Ar (fun i=>n3<=i) h4 h->Ext h0 h)(O:h0.next<=r)(k1:t<n3)(k2:r<n3)(k3:b<n3)(k4:ml<n3)(k5:ll<n3):∀(n i:Nat) (h:Ab),2-i<n->i<=2->HB h->(∀i,h.next<=i->n3<=i)->Ar (fun i=>n3<=i) h4 h->Ain h P (1+16*i) (fun i=>n3<=i)->Q0 h b ml ll g es->h.get t=some (.cells l 163)->h.get r=some (.cells (List.replicate 44 (.int .u8 0)) 245) ->
 Ok (Xt K n (I j) (.ptr t 0) (.ptr r 0) (.ptr P 0) (I i) h) fun v h'=>Arw v/\Ext h0 h'/\HB h':=by
 intro n;induction n with
 | zero=>intro i h U;omega
 | succ n V=>
  intro i h U C hb W c p m gt D;rw[Xt];simp only[I,Ad,Aa];by_cases X:i<2
  ·have:decide ((i:Int)<2)=true:=by simp;omega
   simp only[this,Aa,Aup];rw[Aj gt rfl L];simp only[Ad];rw[show Cx .i64 (j-1)=j-1 from Cn (by omega) (by omega),show Cx .i64 (2*(j-1))=2*(j-1)from Cn (by omega) (by omega),show Cx .i64 (2*(j-1)+i)=2*(j-1)+i from Cn (by omega) (by omega)];refine(U0 (K:=K) s m hb (2*(j-1)+i)).Ap ?_;rintro _ h2 ⟨rfl,E⟩;have q:=E.hb hb;have F:=A76 m.ok (2*(j-1)+(i:Int));generalize (Ak4 es (2*(j-1)+(i:Int))).1=x at F⊢;simp only[Aa];refine Ok.stW (Ac _ _) rfl rfl ?_;have u:Ext h2 ((h2.new (.cells [EV.int .i64 0,.int .i64 0,.int .i64 0,.int .i64 0,.int .i64 0,.int .i64 0] 53)).put h2.next (.cells x.cells 53)):=(Ar.new h2 _:Ext _ _).Ak (.inr (aC _)) (aE _) _;have e3:((h2.new (.cells [EV.int .i64 0,.int .i64 0,.int .i64 0,.int .i64 0,.int .i64 0,.int .i64 0] 53)).put h2.next (.cells x.cells 53)).get h2.next=some (.cells x.cells 53):=Ae _ _ _
   generalize (h2.new (.cells [EV.int .i64 0,.int .i64 0,.int .i64 0,.int .i64 0,.int .i64 0,.int .i64 0] 53)).put h2.next (.cells x.cells 53)=h3 at u e3⊢
   have A:=u.hb q;rw[Dj e3 rfl (Am (n:=6) rfl)];have f:=E.trans u;refine(A57 s F J (p.chg hb f fun _ _ _=>id) A (fun i C=>W i (bN f.next C)) (by omega)).Ap ?_;rintro _ G ⟨Y,c5,B,t5⟩;have a:Ar (fun i=>n3<=i) h G:=(Ext.to f).trans c5;simp only[Aua,I,Ad];rw[Cn (by omega) (by omega),show((i:Nat):Int)+1=((i+1:Nat):Int) by omega];refine V (i+1) G (by omega) (by omega) B t5 (c.trans a) ?_ ?_ ?_ ?_
   ·rw[Nat.mul_succ,<-Nat.add_assoc];exact Y
   ·exact m.frame (a.get _ (hb _ _ m.map) (by omega)) (a.get _ (hb _ _ m.row) (by omega)) (a.get _ (hb _ _ m.live) (by omega))
   ·exact a.at hb gt (by omega)
   ·exact a.at hb D (by omega)
  ·have:decide ((i:Int)<2)=false:=by simp;omega
   have:i=2:=by omega
   subst this;simp only[this,Aa,At9];refine(Aub p hb (by omega) (by omega)).Ap ?_;rintro v Z ⟨hv,k,o⟩;exact A43 hv (k.at hb D) (by simp) ((M h c).trans k) o O
theorem A2n(C:1000<K){ll:Nat}(s:Sm g)(m:Q0 h b ml ll g es)(hb:HB h){x z:EV}{j:Int}(F:1<=j)(G:j<=255):
 Ok (Apv K (.agg [x,y,z,.ptr b 0]) (I j) h) fun v h'=>Arw v/\Ext h h'/\HB h':=by
 simp only[Apv,Aa];rw[Az (l:=[.Ao,.bool false]) rfl];simp only[Aa];have A:Ext h ((h.new (.cells [x,y,z,.ptr b 0] 163)).new (.cells (List.replicate 44 (.int .u8 0)) 245)):=(Ar.new _ _).Di _;have D:((h.new (.cells [x,y,z,.ptr b 0] 163)).new (.cells (List.replicate 44 (.int .u8 0)) 245)).get h.next=some (.cells [x,y,z,.ptr b 0] 163):=by rw[Ay _ (aE _)];exact Ac _ _
 have f1:((h.new (.cells [x,y,z,.ptr b 0] 163)).new (.cells (List.replicate 44 (.int .u8 0)) 245)).get (h.next+1)=some (.cells (List.replicate 44 (.int .u8 0)) 245):=Ac _ _;have J:((h.new (.cells [x,y,z,.ptr b 0] 163)).new (.cells (List.replicate 44 (.int .u8 0)) 245)).next=h.next+2:=rfl
 rw[show(h.new (Dz.cells [x,y,z,EV.ptr b 0] 163)).next=h.next+1 from rfl];generalize (h.new (.cells [x,y,z,.ptr b 0] 163)).new (.cells (List.replicate 44 (.int .u8 0)) 245)=k at A D f1 J⊢;have o:=A.hb hb;have p:Ext k (k.new (.cells [.Ao,.bool false] 350)):=Ar.new _ _;have E:Ain (k.new (.cells [.Ao,.bool false] 350)) k.next 0 (fun i=>k.next<=i):=A4z (aC _)
 have n4:(k.new (.cells [.Ao,.bool false] 350)).next=k.next+1:=rfl
 generalize k.new (.cells [.Ao,.bool false] 350)=h4 at p E n4⊢;have f:=p.hb o;have l1:=hb _ _ m.map;have L:=hb _ _ m.row;have M:=hb _ _ m.live;have q:=A.trans p;refine(Rp C E f (fun i V=>by omega) (by omega) (w:=1) (by omega) (by omega) (v:=j) (by omega) (by omega) (by omega)).Ap ?_;rintro _ O ⟨U,c5,B,t5⟩;refine Azq (es:=es) (n3:=k.next) C s rfl F G (h0:=h) (h4:=h4) (b:=b) (ml:=ml) (ll:=ll) (fun h' c=>q.then c fun i a b=>by omega) (Nat.le_succ _) (by omega) (by omega) (by omega) (by omega) (by omega) K 0 O (by omega) (by omega) B t5 c5 U ?_ (c5.at f (p.at o D) (by omega)) (c5.at f (p.at o f1) (by omega));have u:=m.frame (q.get _ l1 id) (q.get _ L id) (q.get _ M id);exact u.frame (c5.get _ (f _ _ u.map) (by omega)) (c5.get _ (f _ _ u.row) (by omega)) (c5.get _ (f _ _ u.live) (by omega))
section
theorem Bpy:(Dt TT 159 0).2.1 = [29,30]:=by kernel_rfl
def A00(sq:Int)(es:List Me):Bool:=es.any fun x=>decide (sq<=x.seq)
structure Bez(h:Ab)(l0 d0:Nat)(tm:Ax)(b1 b2:Nat)(x y w:EV)(sq:Int)(found:Bool):Prop where
 lp:h.get l0=some (As TT 159 36 0 tm (if found then .done else .ready) (if found then some .ret else none) d0)
 c1:h.get b1=some (.cells [x,y,I sq,w] 163)
 c2:h.get b2=some (.cells [.bool false] 4)
 hb:HB h
section
variable (H:Ca disp)
include H
theorem A66(he:2<=e){l0 d0 b1:Nat}{x w:EV}{i:Int}{z:Me}(C:Bez h l0 d0 tm b1 b2 x y w sq false)(t1:tmp tm 1=.ptr b1 0)(t2:tmp tm 2=.ptr b2 0):
 ∃h',Ag TT disp K (e+1) true l0 [I i,.agg z.cells] h=some (.bool (decide (¬sq<=z.seq)),h')/\Bez h' l0 d0 tm b1 b2 x y w sq (decide (sq<=z.seq))/\Ar (fun j=>j=l0\/j=b2) h h':=by
 have q:=C.lp;simp only[aU,aY]at q;have k:=q;have J:=C.c1;have L:=C.c2;have hb:=C.hb;unfold As at k;rw[Bpy]at k;rw[Alg H he tm h (I i) _ k,t1,t2];have W:=hb _ _ q;have m:l0≠b1:=Be q J (by simp[As]);have f:l0≠b2:=Be q L (by simp[As]);have M:b1≠b2:=Be J L (by intro y;injection y with _ y;cases y);simp only[Aes,Aa];rw[Akl (h:=h.new (.cells [EV.int .i64 0,.int .i64 0,.int .i64 0,.int .i64 0,.int .i64 0,.int .i64 0] 53)) (i:=h.next) (o:=0) (n:=6) (v:=.agg z.cells) (l:=[EV.int .i64 0,.int .i64 0,.int .i64 0,.int .i64 0,.int .i64 0,.int .i64 0]) (t:=53) (l':=z.cells) (Ac _ _) rfl rfl (Bm rfl)];have u:Ext h ((h.new (.cells [EV.int .i64 0,.int .i64 0,.int .i64 0,.int .i64 0,.int .i64 0,.int .i64 0] 53)).put h.next (.cells z.cells 53)):=(Ar.new h _:Ext _ _).Ak (.inr (aC _)) (aE _) _;have e3:((h.new (.cells [EV.int .i64 0,.int .i64 0,.int .i64 0,.int .i64 0,.int .i64 0,.int .i64 0] 53)).put h.next (.cells z.cells 53)).get h.next=some (.cells z.cells 53):=Ae _ _ _
 generalize (h.new (.cells [EV.int .i64 0,.int .i64 0,.int .i64 0,.int .i64 0,.int .i64 0,.int .i64 0] 53)).put h.next (.cells z.cells 53)=p at u e3⊢
 have A:=u.hb hb;have O:=u.at hb q;have U:=A _ _ O;rw[Qo O];have c4:Ar (fun j=>j=l0\/j=b2) h (p.put l0 (As TT 159 36 0 tm .busy none d0)):=(Ext.to (S:=fun j=>j=l0\/j=b2) u).Ak (.inl (.inl rfl)) U _;have r0:(p.put l0 (As TT 159 36 0 tm .busy none d0)).get l0=some (As TT 159 36 0 tm .busy none d0):=Ae _ _ _;have D:(p.put l0 (As TT 159 36 0 tm .busy none d0)).get b1=some (.cells [x,y,I sq,w] 163):=by rw[Af _ m];exact u.at hb J
 have E:(p.put l0 (As TT 159 36 0 tm .busy none d0)).get b2=some (.cells [.bool false] 4):=by rw[Af _ f];exact u.at hb L
 have V:(p.put l0 (As TT 159 36 0 tm .busy none d0)).get h.next=some (.cells z.cells 53):=by rw[Af _ (by omega)];exact e3
 have a:HB (p.put l0 (As TT 159 36 0 tm .busy none d0)):=A.put U _;generalize p.put l0 (As TT 159 36 0 tm .busy none d0)=h4 at c4 r0 D E V a⊢;have F:=a _ _ r0;have B:=a _ _ E;simp only[Xh,Aa];rw[Aj V rfl (v:=I z.seq) rfl,Aj D rfl (v:=I sq) rfl];simp only[I,Ad];by_cases G:sq<=z.seq
 ·have e1:decide (z.seq≥sq)=true:=aP G
  simp only[e1,Aa,G,aD,aA,aB];rw[Akl (o:=0) (n:=1) (v:=.bool false) (l':=[.bool false]) E rfl rfl rfl,Js (by rw[Af _ (cN f)];exact r0)];exact⟨_,rfl,⟨Ae _ _ _,by rw[Af _ m,Af _ (cN M)];exact D,by rw[Af _ f];exact Ae _ _ _,(a.put B _).put (by rw[Ab.Qf];exact F) _⟩,(c4.Ak (.inl (.inr rfl)) B _).Ak (.inl (.inl rfl)) (by rw[Ab.Qf];exact F) _⟩
 ·have e1:decide (z.seq≥sq)=false:=aQ G
  simp only[e1,Aa,G,aG,aA,aB];rw[Js r0];exact⟨_,rfl,⟨Ae _ _ _,by rw[Af _ m];exact D,by rw[Af _ f];exact E,a.put F _⟩,c4.Ak (.inl (.inl rfl)) F _⟩
theorem A9r(he:3<=e){l0 d0 b1:Nat}{x w:EV}(L:es.length<=256)(t1:tmp tm 1=.ptr b1 0)(t2:tmp tm 2=.ptr b2 0):∀(m i:Nat) (h:Ab),es.length-i<m->i<=es.length->Bez h l0 d0 tm b1 b2 x y w sq false ->
 h.get ml=some (.cells (es.map Me.cells).flatten 53)->ml≠l0->ml≠b2 ->
 Ok (Ce (Ag TT disp K e false) (Ag TT disp K e true) K m (.Sy l0) (.slice ml 0 es.length es.length false) (I es.length) (I i) h) fun _ h'=>Bez h' l0 d0 tm b1 b2 x y w sq (A00 sq (es.drop i))/\Ar (fun j=>j=l0\/j=b2) h h':=by
 intro m;induction m with
 | zero=>intro i h hm;omega
 | succ m F=>
  intro i h hm M f E q u;rw[Ce];simp only[I,Ad,Aa];by_cases o:i<es.length
  ·have:decide ((i:Int)<(es.length:Int))=true:=by simp;omega
   simp only[this,Aa,Gf];rw[Mg o,bC,Dj E rfl (Axm es o)];rw[show A00 sq (es.drop i)=(decide (sq<=es[i].seq)||A00 sq (es.drop (i+1))) by rw[cZ o];rfl];generalize es[i]=z
   try simp only[Aa]
   refine Ok.stW (Ac _ _) rfl rfl ?_;have p:Ext h ((h.new (.cells [EV.int .i64 0,.int .i64 0,.int .i64 0,.int .i64 0,.int .i64 0,.int .i64 0] 53)).put h.next (.cells z.cells 53)):=(Ar.new h _:Ext _ _).Ak (.inr (aC _)) (aE _) _;have e3:((h.new (.cells [EV.int .i64 0,.int .i64 0,.int .i64 0,.int .i64 0,.int .i64 0,.int .i64 0] 53)).put h.next (.cells z.cells 53)).get h.next=some (.cells z.cells 53):=Ae _ _ _
   generalize (h.new (.cells [EV.int .i64 0,.int .i64 0,.int .i64 0,.int .i64 0,.int .i64 0,.int .i64 0] 53)).put h.next (.cells z.cells 53)=C at p e3⊢
   have D:=p.hb f.hb;rw[Dj e3 rfl (Am (n:=6) rfl)];obtain⟨e,rfl⟩:∃k,e=k+1:=⟨e-1,by omega⟩;have G:Rn (Ag TT disp K (e+1) false) (Ag TT disp K (e+1) true) (.Sy l0) [.int .i64 (i:Int),.agg z.cells] C=Ag TT disp K (e+1) true l0 [I i,.agg z.cells] C:=rfl;obtain⟨h4,J,A,c4⟩:=A66 (K:=K) H (e:=e) (by omega) (i:=i) (z:=z) (⟨p.at f.hb f.lp,p.at f.hb f.c1,p.at f.hb f.c2,D⟩:Bez C l0 d0 tm b1 b2 x y w sq false) t1 t2;rw[G,J,Au];have c:Ar (fun j=>j=l0\/j=b2) h h4:=(Ext.to p).trans c4;by_cases B:sq<=z.seq
   ·simp only[B,aB]at A
    simp only[B,aD,aA,Aa,aB,Bool.true_or];exact .ret ⟨A,c⟩
   ·simp only[B,aA]at A
    simp only[B,aG,aB,aA,Aa,Bool.false_or,Gd,Ad];rw[Cn (by omega) (by omega),show((i:Nat):Int)+1=((i+1:Nat):Int) by omega];refine(F (i+1) h4 (by omega) (by omega) A (c.at f.hb E fun y=>y.elim q u) q u).mono ?_;rintro _ O ⟨a,c5⟩;exact⟨a,c.trans c5⟩
  ·have:decide ((i:Int)<(es.length:Int))=false:=by simp;omega
   have e0:es.drop i = []:=List.drop_eq_nil_of_le (by omega);rw[e0];simp only[this,Aa];exact .ret ⟨f,Ar.refl _⟩
omit H in
theorem Azd {l:Int}(h:Ab):R7 K (I v) (I l) h=some (.bool (decide (1<=v)&&decide (v<=l)),h):=by
 simp only[R7,Aoe,I,Ad,Aa];by_cases a:1<=v<;>by_cases h2:v<=l<;>simp[a,h2,Aa]
end
end
section
def snR(x y z:Int)(es:List Me):Bool:=(decide (1<=x)&&decide (x<=281474976710655))&&((decide (1<=y)&&decide (y<=4294967295))&&((decide (1<=z)&&decide (z<=281474976710655))&&!A00 z es))
theorem Ajs {a:Ab}{q:Nat}{b:Bool}(f:a.get q=some (.cells [.bool b] 4)):I9 TT [.c (.ptr q 0) 4] a=some (.bool b,a):=by
 have k:Jg a q 0 1=some [.bool b]:=by unfold Jg;rw[f];rfl
 unfold I9;simp only[Axa,show TT.size 4=some 1 by kernel_rfl,show TT.agg 4=some false by kernel_rfl,k]
section
variable (H:Ca disp)
include H
theorem Axx(he:4<=e)(hK:1000<K){f:Ab}(w1:Ext h0 f){ll b1:Nat}(s:Sm g)(m:Q0 f b ml ll g es)(o:HB f)(l1:h0.next<=b1)(l2:h0.next<=b2)(lm:ml<h0.next){x:EV}{z:Int}(V:f.get b1=some (.cells [x,y,I z,.ptr b 0] 163))(f1:f.get b2=some (.cells [.bool false] 4))(t1:tmp tm 1=.ptr b1 0)(t2:tmp tm 2=.ptr b2 0):
 Ok (Va (Ag TT disp K e false) (Ag TT disp K e true) K tm (.ptr b1 0) (.ptr b2 0) f []) fun v h'=>v=.bool (!A00 z es)/\Ext h0 h'/\HB h':=by
 have:=s.b0;have:=s.b1;have hlen:=m.len;simp only[Va,Aa];rw[Aj V rfl (v:=.ptr b 0) rfl];simp only[Xm,Aa,Fo];rw[Aj m.map rfl (v:=.slice ml 0 g.B.toNat g.B.toNat false) rfl,<-hlen];simp only[Aa];have W:Ext f (f.new (.cells [.slice ml 0 es.length es.length false] 141)):=Ar.new _ _;have q2:(f.new (.cells [.slice ml 0 es.length es.length false] 141)).get f.next=some (.cells [.slice ml 0 es.length es.length false] 141):=Ac _ _
 have n2:(f.new (.cells [.slice ml 0 es.length es.length false] 141)).next=f.next+1:=rfl
 generalize f.new (.cells [.slice ml 0 es.length es.length false] 141)=h2 at W q2 n2⊢;have D:=W.hb o;have E:tmp (((tm.put 26 (some (.ptr b1 3))).put 27 (some (.ptr b 0))).put 28 (some (.func 201 [] [.ptr f.next 0]))) 1=.ptr b1 0:=by simp only[Ei,reduceIte,Nat.reduceEqDiff];exact t1
 have F:tmp (((tm.put 26 (some (.ptr b1 3))).put 27 (some (.ptr b 0))).put 28 (some (.func 201 [] [.ptr f.next 0]))) 2=.ptr b2 0:=by simp only[Ei,reduceIte,Nat.reduceEqDiff];exact t2
 generalize (((tm.put 26 (some (.ptr b1 3))).put 27 (some (.ptr b 0))).put 28 (some (.func 201 [] [.ptr f.next 0])))=tm at E F⊢;obtain⟨e,rfl⟩:∃k,e=k+1:=⟨e-1,by omega⟩;refine Ok.range ?_;have L:Ext h2 (Bq TT 159 36 0 tm h2):=Gh;have X:(Bq TT 159 36 0 tm h2).get h2.next=some (.deferred true):=G3
 have k1:(Bq TT 159 36 0 tm h2).get (h2.next+1)=some (As TT 159 36 0 tm .ready none h2.next):=Gc;generalize Bq TT 159 36 0 tm h2=M at L X k1⊢;have u:=L.hb D;have q:Ext f M:=W.trans L;have aj:=o _ _ V;have al:=o _ _ f1;have ao:=o _ _ m.row;rw[Jp H (cU _)];simp only[G2,dr];rw[Aj (L.at D q2) rfl (v:=.slice ml 0 es.length es.length false) rfl];simp only[Aa];have I3:Bez M (h2.next+1) h2.next tm b1 b2 x y (.ptr b 0) z false:=⟨k1,q.at o V,q.at o f1,u⟩
 refine(A9r (K:=K) H (e:=e) (by omega) (es:=es) (ml:=ml) (by omega) E F K 0 M (by omega) (by omega) I3 (q.at o m.row) (by omega) (by omega)).mono ?_;rw[dA];rintro _ h4 ⟨G,c4⟩;have au:=w1.next
 have O:=G.hb _ _ G.lp;have k2:h2.next<M.next:=u _ _ X
 have kd:h4.get h2.next=some (.deferred true):=c4.at u X (by omega)
 have x4:Ext h0 h4:=(w1.trans q).then c4 fun i U a=>by omega
 have ne:h2.next≠b2:=by omega
 have lp:=G.lp;have c2:=G.c2;have J:=G.hb;revert lp;generalize A00 z es=bb;intro lp;cases bb with
 | true=>
  simp only[bG]at lp;refine .inr ⟨lp,?_⟩;have p:HB (h4.put (h2.next+1) (As TT 159 36 0 tm .exhausted (some .ret) h2.next)):=J.put O _;refine Ok.unwind (cQ.2 ⟨by simp,cj⟩) (fun d hd=>by rw[aO]at hd;subst hd;rw[Af _ (by omega)];exact kd) p fun Y A _=>?_
  have Z:Y.get b2=some (.cells [.bool false] 4):=Ar.at A p (by rw[Af _ (by omega)];exact c2) (by rw[aO];omega);rw[Ajs Z];exact .ret ⟨rfl,(x4.Ak (.inr (by omega)) O _).then A fun i U a=>by rw[aO]at U;omega,A.hb p⟩
 | false=>
  simp only[aU,aY]at lp;refine .inl ⟨lp,?_⟩;simp only[U5,dr];have p:HB (h4.put (h2.next+1) (As TT 159 36 0 tm .exhausted none h2.next)):=J.put O _;have g5:(h4.put (h2.next+1) (As TT 159 36 0 tm .exhausted none h2.next)).get b2=some (.cells [.bool false] 4):=by rw[Af _ (by omega)];exact c2
  have x5:Ext h0 (h4.put (h2.next+1) (As TT 159 36 0 tm .exhausted none h2.next)):=x4.Ak (.inr (by omega)) O _;have d5:(h4.put (h2.next+1) (As TT 159 36 0 tm .exhausted none h2.next)).get h2.next=some (.deferred true):=by rw[Af _ (by omega)];exact kd
  generalize h4.put (h2.next+1) (As TT 159 36 0 tm .exhausted none h2.next)=h5 at p g5 x5 d5⊢;have l6:=p _ _ g5;refine Ok.Zl g5 rfl rfl (by show 0<1;decide) ?_;have C:HB (h5.put b2 (.cells ([EV.bool false].set 0 (.bool true)) 4)):=p.put l6 _;refine Ok.unwind (cQ.2 ⟨by simp,cj⟩) (fun d hd=>by rw[aO]at hd;subst hd;rw[Af _ (cN ne)];exact d5) C fun Y A _=>?_
  have Z:Y.get b2=some (.cells [.bool true] 4):=Ar.at A C (Ae _ _ _) (by rw[aO];exact cN ne);rw[Ajs Z];exact .ret ⟨rfl,(x5.Ak (.inr l2) l6 _).then A fun i U a=>by rw[aO]at U;omega,A.hb C⟩
end
end
theorem Ab4 {l:Int}(h:Ab):R7 K (.int .i64 v) (.int .i64 l) h=some (.bool (decide (1<=v)&&decide (v<=l)),h):=Azd h
theorem Bh2 {a:Ab}(f1:a.get b2=some (.cells [.bool false] 4))(w1:Ext h0 a)(f:HB a)(k:h0.next<=b2):Ok (stE 1 (.ptr b2 0) (.bool false) a fun h=>Fp [] h fun h=>I9 TT [.c (.ptr b2 0) 4] h) fun v h'=>v=.bool false/\Ext h0 h'/\HB h':=by
 have l:=f _ _ f1;refine Ok.Zl f1 rfl rfl (by show 0<1;decide) ?_;show Ok (I9 TT [.c (.ptr b2 0) 4] (a.put b2 (.cells [.bool false] 4))) _;rw[Ajs (b:=false) (Ae _ _ _)];exact .ret ⟨rfl,w1.Ak (.inr k) l _,f.put l _⟩
section
variable (H:Ca disp)
include H
theorem Aqw(hd:5<=d)(o:1000<K){ll:Nat}(s:Sm g)(m:Q0 h b ml ll g es)(hb:HB h)(x y z:Int):
 Ok (Ag TT disp K d false 159 [.agg [I x,I y,I z,.ptr b 0]] h) fun v h'=>v=.bool (snR x y z es)/\Ext h h'/\HB h':=by
 obtain⟨e,rfl⟩:∃k,d=k+1:=⟨d-1,by omega⟩;rw[Aqc H (by omega)];simp only[Alo,Aa];have w1:Ext h ((h.new (.cells [I x,I y,I z,.ptr b 0] 163)).new (.cells [.bool false] 4)):=(Ar.new _ _).Di _;have a:((h.new (.cells [I x,I y,I z,.ptr b 0] 163)).new (.cells [.bool false] 4)).get h.next=some (.cells [I x,I y,I z,.ptr b 0] 163):=by rw[Ay _ (aE _)];exact Ac _ _
 have f1:((h.new (.cells [I x,I y,I z,.ptr b 0] 163)).new (.cells [.bool false] 4)).get (h.next+1)=some (.cells [.bool false] 4):=Ac _ _;have p:((h.new (.cells [I x,I y,I z,.ptr b 0] 163)).new (.cells [.bool false] 4)).next=h.next+2:=rfl
 rw[show(h.new (Dz.cells [I x,I y,I z,EV.ptr b 0] 163)).next=h.next+1 from rfl];generalize (h.new (.cells [I x,I y,I z,.ptr b 0] 163)).new (.cells [.bool false] 4)=A at w1 a f1 p⊢;have f:=w1.hb hb;have no:=Bh2 (h0:=h) f1 w1 f (Nat.le_succ _);have q:Fj (.tuple []) false=false/\Fj (.tuple []) true=false:=⟨rfl,rfl⟩;unfold snR;rw[Aj a rfl (v:=.ptr b 0) rfl,show ∀k:EV->R,Kv Ala (bin TT .eql 49) (.ptr b 0) .Cl k=k (.bool false)from fun k=>by kernel_rfl];simp only[Aa,Ad];rw[Aj a rfl (v:=I x) rfl]
 try simp only[I]
 rw[Ab4,Au];cases(decide (1<=x)&&decide (x<=281474976710655))with
 | false=>
  simp only[Aa,Ad,P0,Lx,Jo,aX];exact no
 | true=>
 simp only[Aa,Ad,P0,aZ];rw[Aj a rfl (v:=I y) rfl]
 try simp only[I]
 rw[Ab4,Au];cases(decide (1<=y)&&decide (y<=4294967295))with
 | false=>
  simp only[Aa,Ad,Lx,Jo,aX];exact no
 | true=>
 simp only[Aa,Ad,Lx,aZ];rw[Aj a rfl (v:=I z) rfl]
 try simp only[I]
 rw[Ab4,Au];cases(decide (1<=z)&&decide (z<=281474976710655))with
 | false=>
  simp only[Aa,Ad,Jo,aX];exact no
 | true=>
 simp only[Aa,Ad,Jo,aZ];have u:=m.frame (w1.get _ (hb _ _ m.map) id) (w1.get _ (hb _ _ m.row) id) (w1.get _ (hb _ _ m.live) id);exact Axx H (by omega) o w1 s u f (aC _) (Nat.le_succ _) (hb _ _ m.row) a f1 (by simp only[Ei,reduceIte,Nat.reduceEqDiff]) (by simp only[Ei,reduceIte,Nat.reduceEqDiff])
end
end Go.Ev
