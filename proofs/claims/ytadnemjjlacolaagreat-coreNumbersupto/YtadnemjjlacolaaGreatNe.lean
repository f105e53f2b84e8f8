import Derived.Test.YtadnemjjlacolaaGreatNd
import Derived.Test.YtadnemjjlacolaaGreatDc
set_option linter.all false
namespace Go.Ev
open Go.Proofs
set_option maxRecDepth 100000
variable {h:Aa}{B:Cb}{X:Co}{F:Nat->Prop}{K b d i:Nat}{L L':List (List Nat)}{Q:EV->Aa->Prop}{g:Gm}{mt:Int->Int}{ih:EV->EV->EV->EV->EV->Aa->R}{v1:EV}{O:List Vo}{disp:Nat->Option FT}
def nR(X:Co):List Int:=[X.gen,X.ep,X.nx]
theorem Bpw:TT.size 69=some 3/\TT.agg 69=some true:=⟨by kernel_rfl,by kernel_rfl⟩
theorem A0r(C:Dw h B X F):Ok (Q2 K (.ptr B.c 0) h) fun v h'=>v=.agg ((nR X).map I)/\Ext h h':=by
 simp only[Q2,Ab];have a:Ext h (h.new (.cells [.int .i64 0,.int .i64 0,.int .i64 0] 69)):=Ar.new _ _;have e:(h.new (.cells [.int .i64 0,.int .i64 0,.int .i64 0] 69)).get h.next=some (.cells [.int .i64 0,.int .i64 0,.int .i64 0] 69):=Ad _ _
 have f:(h.new (.cells [.int .i64 0,.int .i64 0,.int .i64 0] 69)).next=h.next+1:=rfl
 generalize h.new (.cells [.int .i64 0,.int .i64 0,.int .i64 0] 69)=j at a e f⊢;rw[Cr (a.at C.hb C.core) rfl (l':=(nR X).map I) rfl];refine Ok.stW e rfl rfl ?_;rw[Sx (Ae _ _ _) Bpw.1 Bpw.2 rfl];exact .ret ⟨rfl,a.Aq (.inr (aE _)) (by omega) _⟩
theorem Bio {l l':List Int}(f:l.length=3)(e:l'.length=3)(k:EV->R):Kk Ajg (bin TT .neq 69) (.agg (l.map I)) (.agg (l'.map I)) k=k (.bool (!decide (l=l'))):=by
 have he:TT.eqs 69=some [0,0,0]:=by kernel_rfl
 have sh:shaped [0,0,0] (l.map I)=true:=by
  rcases l with _|⟨a,_|⟨b,_|⟨c,_|⟨d,l⟩⟩⟩⟩<;>first|rfl|cases f
 have j:Aqr TT 69 (.agg (l.map I)) (.agg (l'.map I))=some (decide (l=l')):=by
  show(match TT.eqs 69 with|some sh=>Ba (shaped sh (l.map I)) (E2 (l.map I) (l'.map I)) none|none=>none)=_;rw[he];simp only;rw[sh,Aj,Ay1 l l' (f.trans e.symm)]
 show oB k (match Aqr TT 69 (.agg (l.map I)) (.agg (l'.map I))with|some b=>some (EV.bool (Ba b false true))|none=>none)=_;rw[j];cases decide (l=l')<;>rfl
theorem Bmx{N:Nat}{v:EV}{L:List Vo}(R0:Awt h N v b L)(a:i<L.length){k:Aa->R}(f:∀h2,Ext h h2->h2.get h.next=some (.cells L[i].cells 34)->h2.next=h.next+1->Ok (k h2) Q):
 Ok (Aac 72 v (.int .i64 (i:Int)) fun p=>Ox 72 p h fun w=>stE 72 (.ptr h.next 0) w (h.new (.cells (List.replicate 3 (.int .i64 0)++[.Ao]++List.replicate 4 (.int .i64 0)++List.replicate 64 (.int .u8 0)) 34)) k) Q:=by
 rw[R0.at a];have ol:=Vo.len ((R0.Ow _ (a9 a)).1.ev);refine Ok.st L[i].cells (Ad _ _) rfl (by show Fz L[i].cells=72;rw[Bc,ol]) (Bk (by show _=L[i].cells.length;rw[ol];exact Bbw)) ?_;have j:=Bbw;generalize List.replicate 3 (EV.int .i64 0)++[EV.Ao]++List.replicate 4 (EV.int .i64 0)++List.replicate 64 (EV.int .u8 0)=e at j⊢;have m:Ext h ((h.new (.cells e 34)).put h.next (.cells L[i].cells 34)):=(Ar.new h _:Ext _ _).Aq (.inr (aE _)) (aL _) _;exact f _ m (Ae _ _ _) rfl
structure LwI(g:Gm)(X:Co)(L:List (List Nat))(mt:Int->Int)(i:Nat):Prop where
 j:Jc X L mt
 gg:X.S.g=g
 gen:X.gen<=1100*i
 nx:X.nx<=1+70000*i
 ep:X.ep=1
theorem LwI.start(a:rtB g=true):LwI g (Co.start g) (Atc g) (fun _=>-1) 0:=⟨Bg3 a,(A9f a _).gg,cY _,by show(1:Int)<=_;omega,rfl⟩
theorem LwI.step{Y:Co}{mt':Int->Int}(w:LwI g X L mt i)(j:Jc Y L' mt')(o:Opd X Y):LwI g Y L' mt' (i+1):=by
 have a:=w.gen;have b:=w.nx;have c:=o.gen;have d:=o.nx;exact⟨j,o.g.trans w.gg,by omega,by omega,o.nm.1.trans w.ep⟩
theorem LwI.more(w:LwI g X L mt i):LwI g X L mt (i+1):=⟨w.j,w.gg,by have:=w.gen;omega,by have:=w.nx;omega,w.ep⟩
section
theorem Bfy(s:Sm g){Y:Co}{o:Vo}{e:Int}(J:Did o X L Y L' e)(op:Opd X Y)(gX:X.S.g=g)(rl:∀k:EV->R,H5 o.bl k=k (I o.bs.length))(V:o.bs.length<=1048576)(bn:0<=X.nx/\X.nx<=1000000000/\0<=X.gen/\X.gen<=1000000000){a2 D p j:Nat}(hb:HB h)
 (ga:h.get a2=some (.cells (gL g) 23)) (E:∀k:EV->R,∀h',Ext h h'->Ez (.ptr D 0) h' k=k (I o.kind)/\Ez (.ptr D 3) h' k=k o.bl) (M:h.get p=some (.cells ((nR X).map I) 69)) (W:h.get j=some (.cells ((nR Y).map I) 69)) {c r:Ai} {P n i:EV}
 (u:∀h',Ext h h'->Ok (Er c r K ih (.ptr a2 0) P v1 n i h') Q):Ok (Ip c r K ih (.ptr a2 0) P (.ptr D 0) (.ptr p 0) (.int .i64 X.prs) (I e) (.ptr j 0) v1 n i h) Q:=by
 have ag:Fa (.tuple []) false=false/\Fa (.tuple []) true=false:=⟨rfl,rfl⟩;have nn:∀(h':Aa),Ext h h'->∀k:EV->R,Ox 3 (.ptr p 0) h' k=k (.agg ((nR X).map I)):=fun h' x k=>Cr (x.at hb M) rfl (Ak (by simp[nR]))
 have T:∀(h':Aa),Ext h h'->∀k:EV->R,Ox 3 (.ptr j 0) h' k=k (.agg ((nR Y).map I)):=fun h' x k=>Cr (x.at hb W) rfl (Ak (by simp[nR]))
 have n0:∀(h':Aa),Ext h h'->∀k:EV->R,Ez (.ptr p 0) h' k=k (.int .i64 X.gen):=fun h' x k=>Al (x.at hb M) rfl rfl
 have n1:∀(h':Aa),Ext h h'->∀k:EV->R,Ez (.ptr p 1) h' k=k (.int .i64 X.ep):=fun h' x k=>Al (x.at hb M) rfl rfl
 have n2:∀(h':Aa),Ext h h'->∀k:EV->R,Ez (.ptr p 2) h' k=k (.int .i64 X.nx):=fun h' x k=>Al (x.at hb M) rfl rfl
 have build:∀(a b w:Int) (k:EV->R),Bq (Dh [(0,1),(1,1),(2,1)]) [.int .i64 0,.int .i64 0,.int .i64 0] [(0,.int .i64 a),(1,.int .i64 b),(2,.int .i64 w)] k=k (.agg ([a,b,w].map I)):=fun a b w k=>Ax rfl
 have neq:∀{l:List Int} (V:l.length=3) (k:EV->R),Kk Ajg (bin TT .neq 69) (.agg ((nR Y).map I)) (.agg (l.map I)) k=k (.bool (!decide (nR Y=l))):=fun V k=>Bio rfl V k
 have r0:Ext h h:=Ar.refl h;have m:∀h',Ext h h'->Ok (Jg c r K ih (.ptr a2 0) P (.ptr D 0) (.ptr p 0) (.ptr j 0) v1 n i h') Q:=fun h' x=>by
  simp only[Jg,Ab];rw[(E _ h' x).1];simp only[I,Ac];by_cases U:o.kind=5
  ·obtain⟨e1,e2⟩:=J.f U
   have en:nR Y=nR X:=by unfold nR;rw[e1,e2,op.nm.1]
   simp only[U,aB,Ab,Ac,nn h' x,T h' x];rw[neq rfl,en];simp only[aB,dM,Ab,Ac,Jl];rw[(E _ h' x).1];simp only[I,Ac,U];rw[show decide ((5:Int)=6)=false from rfl];simp only[Ab,Ac,Gh,Gi,Gj];exact u h' x
  ·simp only[U,aA,Ab,Ac,Jl]
   rw[(E _ h' x).1];simp only[I,Ac];by_cases Z:o.kind=6
   ·obtain⟨_,e1,e2⟩:=J.k Z
    simp only[Z,aB,Ab,Ac,Gh,T h' x,n0 h' x,n1 h' x,n2 h' x];rw[Cq,build,neq rfl,show nR Y = [X.gen+1,X.ep,X.nx] by unfold nR;rw[e1,e2,op.nm.1]];simp only[aB,dM,Ab,Ac,Gi,Gj];exact u h' x
   ·simp only[Z,aA,Ab,Ac,Gh,Gi,Gj]
    exact u h' x
 have q:(o.kind=1->e=0->g.Dz<=X.prs->nR Y = [X.gen,X.ep,X.nx+o.bs.length])->Ok (I7 c r K ih (.ptr a2 0) P (.ptr D 0) (.ptr p 0) (.int .i64 X.prs) (I e) (.ptr j 0) v1 n i h) Q:=fun hw=>by
  simp only[I7,Ab];rw[(E _ h r0).1];simp only[I,Ac];by_cases C:o.kind=1
  case neg=>
   simp only[C,aA,Ab,Ac,F9,Ep,Eo];exact m h r0
  by_cases h0:e=0
  case neg=>
   simp only[C,h0,aB,aA,Ab,Ac,F9,Ep,Eo];exact m h r0
  simp only[C,h0,aB,Ab,Ac,F9];rw[Cr ga rfl (Ak (n:=6) rfl)];rw[show EV.agg (gL g)=gV g from rfl,Abj s,As];have t:Ext h (h.new (.cells (gL g) 23)):=Ar.new _ _;generalize h.new (.cells (gL g) 23)=v at t⊢;simp only[I,Ac];by_cases G:g.Dz<=X.prs
  case neg=>
   simp only[G,aA,Ab,Ac,Ep,Eo];exact m v t
  simp only[G,aB,Ab,Ac,Ep,T v t,n0 v t,n1 v t,n2 v t];rw[(E _ v t).2,rl];simp only[I,Ac];rw[Cq (by omega) (by omega),build,neq rfl,hw C h0 G];simp only[aB,dM,Ab,Ac,Eo];exact m v t
 have hw:o.kind=1->e=0->g.Dz<=X.prs->nR Y = [X.gen,X.ep,X.nx+o.bs.length]:=fun C h0 G=>by
  rcases J.w C with⟨_,y,_⟩|⟨_,_,_,y⟩
  ·omega
  ·rw[gX]at y
   obtain⟨e1,e2⟩:=y G;unfold nR;rw[e1,e2,op.nm.1]
 simp only[Ip,I,Ac];by_cases h0:e=0
 ·simp only[h0,aC,aA,Ab,Ac,I5,F7,Im]
  have:=q hw;rw[h0]at this;exact this
 ·obtain⟨H,eY⟩:=J.er h0
  simp only[h0,aN,aB,Ab,Ac,T h r0,nn h r0];rw[neq rfl,eY];simp only[aB,dM,Ab,Ac,I5,H,aC,aA,F7,Im];have:=q hw;rw[H]at this;exact this
section
variable (A:Bv disp)(hK:3000000<K)(hd:31<=d){N a2:Nat}{h0:Aa}(lF:∀i,i<N->F i)(l0:N<=h0.next)(hb0:HB h0)(f2:F a2)(ga2:h0.get a2=some (.cells (gL g) 23))(R0:Awt h0 N v1 b O)(hL:O.length<=60)
include A hK hd lF l0 hb0 f2 ga2 R0 hL
theorem Bft(kk:∀h,Kf F h0 h->Q (.bool true) h):∀(f i:Nat) (h:Aa) (X:Co) (L:List (List Nat)) (mt:Int->Int),O.length-i<f->i<=O.length->Dw h B X F->LwI g X L mt i->Kf F h0 h ->
 Ok (Dp (Ag TT disp K d false) (Ag TT disp K d true) K f (.ptr a2 0) (.ptr B.c 0) v1 (I O.length) (I i) h) Q:=by
 intro f;induction f with
 | zero=>intro i h X L mt hf;omega
 | succ f ih=>
  intro i h X L mt hf hi C w k0;rw[Dp];simp only[I,Ac];by_cases v:i<O.length
  ·have:decide ((i:Int)<(O.length:Int))=true:=by simp;omega
   have Rh:=R0.frame (h':=h) fun j hj=>k0.get j (by omega) fun y=>y (lF j hj)
   simp only[this,Ab,Oc];refine Bmx Rh v fun h2 u S n2=>?_
   obtain⟨oa,ob,oc,od⟩:=Rh.Ow _ (a9 v);generalize O[i]=o at oa ob oc od S;have ol:=Vo.len oa.ev;have k2:=k0.trans (Ext.kf u);have D:=(C.toE u).C;have af:∀k:EV->R,Ez (.ptr h.next 0) h2 k=k (I o.kind):=fun k=>(A0q S k).1
   rw[af];simp only[I,Ac];have E:∀h' Y L' mt',Dw h' B Y F->LwI g Y L' mt' (i+1)->Kf F h0 h'->Ok (Er (Ag TT disp K d false) (Ag TT disp K d true) K (Dp (Ag TT disp K d false) (Ag TT disp K d true) K f) (.ptr a2 0) (.ptr B.c 0) v1 (.int .i64 (O.length:Int)) (.int .i64 (i:Int)) h') Q:=fun h' Y L' mt' C' w' k'=>by
    simp only[Er,Ac];rw[Cq,show((i:Nat):Int)+1=((i+1:Nat):Int) by omega];exact ih (i+1) h' Y L' mt' (by omega) (by omega) C' w' k'
   by_cases k9:o.kind=9
   ·simp only[k9,aB,Ab]
    exact E h2 X L mt D w.more k2
   simp only[k9,aA,Ab,Of];refine(A0r (K:=K) D).Ap ?_;rintro _ T ⟨rfl,x3⟩;refine Ok.mk (by simp) (by simp[nR]) fun h4 x4 g4 _=>?_
   have G:=x3.trans x4;have U:=(D.toE G).C;simp only[Sw,Ab];rw[U.ldM]
   try simp only[Ab]
   refine At8 (K:=K) (by omega) U fun V W=>?_
   have m:=G.trans W;have Z:=(U.toE W).C;have q:=Ext.at m D.hb S;have H:=W.at U.hb g4;rw[Cr q rfl (Ak ol)];have k5:=k2.trans (Ext.kf m);have gen:=w.gen;have nx:=w.nx;have o5:o.At V:=⟨oa.row.frame fun y=>by
    have l:=C.M.lt _ (.inl (lF _ (ob y)));rw[m.get _ (aK l u.next) id,u.get _ l id],oa.ev,oa.pl⟩
   have l2:=D.hb _ _ S;have ah:=Z.hb _ _ H;have ai:=Z.hb _ _ q;have aj:Dw V B X (fun j=>F j\/(h.next<=j/\j<V.next)):=by
    have al:Ext h V:=u.trans m;refine(C.ext al).less fun j hj=>?_
    rcases hj with hj|hj
    ·exact .inl hj
    ·exact .inr ⟨hj.1,hj.2⟩
   refine(Bot (K:=K) A hK aj w.j (by omega) (by omega) o5 oc (fun y=>.inl (lF _ (ob y))) od k9 hd).Ap ?_;rintro _ h6 ⟨e,Y,L',mt',rfl,n,j6,J,di⟩;have w6:=w.step j6 J;have bn:=x4.next;have bo:=x3.next;have bp:=W.next;have bt:=u.next
   have ao:=n.k.at Z.hb q (.inr ⟨aE _,ai⟩);have aq:=n.k.at Z.hb H (.inr ⟨by omega,ah⟩);have n:=n.less (F:=F) fun j=>.inl
   refine(A0r (K:=K) n.C).Ap ?_;rintro _ h7 ⟨rfl,x7⟩;refine Ok.mk (by simp) (by simp[nR]) fun p x8 P _=>?_
   have t:=x7.trans x8;have c8:=n.trans (n.C.toE t);have au:=Ext.at t n.hb ao;have a:=Ext.at t n.hb aq;have k8:=k5.trans c8.k;have n0:∀k:EV->R,Ez (.ptr T.next 0) p k=k (.int .i64 X.gen):=fun k=>Al a rfl rfl
   have n1:∀k:EV->R,Ez (.ptr T.next 1) p k=k (.int .i64 X.ep):=fun k=>Al a rfl rfl
   have aw:∀k:EV->R,Ez (.ptr T.next 2) p k=k (.int .i64 X.nx):=fun k=>Al a rfl rfl
   have m0:∀k:EV->R,Ez (.ptr h7.next 0) p k=k (.int .i64 Y.gen):=fun k=>Al P rfl rfl
   have m1:∀k:EV->R,Ez (.ptr h7.next 1) p k=k (.int .i64 Y.ep):=fun k=>Al P rfl rfl
   have m2:∀k:EV->R,Ez (.ptr h7.next 2) p k=k (.int .i64 Y.nx):=fun k=>Al P rfl rfl
   have nn:∀k:EV->R,Ox 3 (.ptr T.next 0) p k=k (.agg ((nR X).map I)):=fun k=>Cr a rfl (Ak (by simp[nR]))
   have mm:∀k:EV->R,Ox 3 (.ptr h7.next 0) p k=k (.agg ((nR Y).map I)):=fun k=>Cr P rfl (Ak (by simp[nR]))
   have b5:Fa (.tuple []) false=false/\Fa (.tuple []) true=false:=⟨rfl,rfl⟩;have q1:¬(¬Y.ep=X.ep):=fun y=>y J.nm.1
   have q2:¬Y.nx<X.nx:=by have:=J.nx;omega
   have q3:¬Y.gen<X.gen:=by have:=J.gen;omega
   simp only[m1,n1,Ac,q1,aN,aA,Ab,m2,aw,q2,Ou,m0,n0,q3,Oh];have cn:=w.j.c.nm;have s:Sm g:=by rw[<-w.gg];exact w.j.c.c.sm
   refine Bfy s di J w.gg (fun k=>oa.row.H5 k) oc (by omega) c8.hb (Kf.at k8 hb0 ga2 f2) (fun k h' x=>?_) a P fun h' x=>?_
   ·have:=A0q (x.at c8.hb au) k
    exact⟨this.1,this.2.2.2⟩
   ·exact E h' Y L' mt' (c8.C.toE x).C w6 (k8.trans (Ext.kf x))
  ·have:decide ((i:Int)<(O.length:Int))=false:=by simp;omega
   simp only[this,Ab,Oz];exact .ret (kk h k0)
end
end
theorem A6z(A:Bv disp)(hK:3000000<K)(hd:31<=d)(p:∀h,Ag TT disp K d false 11 [] h=some (.bool true,h))(g:Gm)(hb:HB h)(R0:Awt h h.next v1 b O):
 Ok (Lt (Ag TT disp K d false) (Ag TT disp K d true) K (gV g) v1 h) fun v h'=>v=.bool true/\∀i,i<h.next->h'.get i=h.get i:=by
 simp only[Lt,gV,Ab,p];obtain⟨a,E,q,C,M⟩:=nW h (.cells (gL g) 23);rw[E];have e:=q.hb hb;simp only[Ob,Ab];rw[Cw C rfl,Ak (n:=6) rfl]
 try simp only[Ab]
 rw[show EV.agg (gL g)=gV g from rfl];refine(A2b (K:=K) A (by omega) (d:=d) (by omega) g e).Ap ?_;rintro v h2 ⟨j,t,m⟩;have R2:Awt h2 h.next v1 b O:=R0.frame fun i o=>by rw[j.get i (by omega) fun y=>y (show i<a.next by omega),q.get i o id]
 have u:=j.at e C (show h.next<a.next by omega);have G:Fa (.tuple []) false=false/\Fa (.tuple []) true=false:=⟨rfl,rfl⟩;have t2:=j.next
 have Ju:∀(F:Nat->Prop) (h':Aa),(∀i,i<a.next->F i)->Kf F h2 h'->∀i,i<h.next->h'.get i=h.get i:=fun F h' H k i o=>by
  rw[k.get i (by omega) fun y=>y (H i (by omega)),j.get i (by omega) fun y=>y (show i<a.next by omega),q.get i o id]
 by_cases x:rtB g=true/\g.D*g.Z<=64
 case neg=>
  rw[aF x]at m;subst m;rw[Beg];simp only[Ab,Ac,F6];exact .ret ⟨rfl,Ju (fun _=>True) h2 (fun _ _=>trivial) (Ar.refl _)⟩
 rw[aH x]at m;obtain⟨B,rfl,J,P⟩:=m;rw[Bji];simp only[Ab,Ac];rw[R2.H5];simp only[I,Ac];by_cases f:60<(O.length:Int)
 ·simp only[f,aB,Ab,Ac,F6]
  exact .ret ⟨rfl,Ju (fun _=>True) h2 (fun _ _=>trivial) (Ar.refl _)⟩
 simp only[f,aA,Ab,Ac,F6,Oi];rw[R2.H5];exact Bft (K:=K) (Q:=fun v h'=>v=.bool true/\∀i,i<h.next->h'.get i=h.get i) A hK hd (F:=fun i=>i<a.next) (N:=h.next) (fun i o=>by show i<a.next;omega) (by omega) t (show h.next<a.next by omega) u R2 (by omega) (fun h' k=>⟨rfl,Ju _ h' (fun _ y=>y) k⟩) K 0 h2 _ _ _ (by omega) (by omega) J (LwI.start x.1) (Ar.refl _)
end Go.Ev
