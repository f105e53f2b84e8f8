import Derived.Test.YtadnemjjlacolaaGreatNc
import Derived.Test.YtadnemjjlacolaaGreatCe
set_option linter.all false
namespace Go.Ev
open Go.Proofs
set_option maxRecDepth 100000
variable {K b d i:Nat}{h:Ab}{g:Gm}{W:List Wr}{B:Cb}{X Y:Co}{F:Nat->Prop}{mt mt':Int->Int}{v:EV}{o:H0}{disp:Nat->Option FT}
section
def Co.wes(X:Co)(es:List Me):Co:={ X with es:=es }
section
variable (A:Bj disp)(hK:10000<K){L:List (List Nat)}
include A hK
theorem Bv7(hd:22<=d){e:En}(w:e.Wf){f:List Me}(C:Cz h B X F)(c:Cc (X.wes f) L mt)(he:EOk e X.ep X.nx)(hf:1<=X.S.free)(hx:X.nx<=281474976710655):Ok (Ae TT disp K d false 78 [.ptr B.c 0,.agg e.cells] h) fun v h'=>∃x Y mt',v=.tuple [.agg x.cells,I 0]/\Ej h h' B X F Y/\Cc (Y.wes f) L mt'/\Pt (X.wes f) (Y.wes f) mt mt' e x/\Y.es=X.es:=by
 obtain⟨dd,rfl⟩:∃k,d=k+1:=⟨d-1,by omega⟩;rw[Amj A (by omega)];simp only[Aoa,Aa];rw[show(h.new (.cells e.cells 131)).next=h.next+1 from rfl];have E:Ext h ((h.new (.cells e.cells 131)).new (.cells (Me.nil 0).cells 47)):=(Av.new _ _).Ds _;have n1:((h.new (.cells e.cells 131)).new (.cells (Me.nil 0).cells 47)).next=h.next+2:=rfl
 have G:((h.new (.cells e.cells 131)).new (.cells (Me.nil 0).cells 47)).get h.next=some (.cells e.cells 131):=by rw[Az _ (aL _)];exact Ad _ _
 have g4:((h.new (.cells e.cells 131)).new (.cells (Me.nil 0).cells 47)).get (h.next+1)=some (.cells (Me.nil 0).cells 47):=Ad _ _;rw[show[EV.int .i64 0,.int .i64 0,.int .i64 0,.int .i64 0,.int .i64 0,.int .i64 0]=(Me.nil 0).cells from rfl];generalize (h.new (.cells e.cells 131)).new (.cells (Me.nil 0).cells 47)=D at E n1 G g4⊢;have a:=C.ext E;have f4:Bg F h D (h.next+1):=.inr ⟨by omega,by omega⟩;have un:X.st=false:=c.un;rw[a.ldS,un];simp only[Aa];have lc:=a.hb _ _ a.core;have l3:=a.hb _ _ G;have el:=En.Br w;simp only[Yt,Aa];rw[Ku lc,a.ldM];simp only[Aa,Aw];rw[Ku l3,Bp G rfl (Ai el)];simp only[Aa,Aw];rw[Ku lc,a.ldE];simp only[Aa,Aw];rw[Ku lc,a.ldN];simp only[Aa,Aw];have V:=a.lift;obtain⟨T,mt',x,hp,cc,pt⟩:=Bh6 c w he hf;have hp:X.S.place e X.ep X.nx=(T,x,0):=hp;have nm:0<=X.gen/\X.ep=1/\1<=X.nx:=c.nm;have pl:=A7o A hK (d:=dd) (by omega) V.M V.hb w X.ep X.nx;rw[hp]at pl;refine Ok.bC (S:=fun j=>¬B.fr (Bg F h D) j) pl (fun _ _ p=>p.2.2.1) ?_;rintro _ ah h2 s' ⟨rfl,M',_,H⟩ sm ch J;have mk:=Bd2 X.S e X.ep X.nx;rw[hp]at mk;have c2:=a.Kk (M'.same sm) ch (sm.hb H) mk;have O:=c2.k.at a.hb g4 f4;simp only[Aa];rw[Lf (by rcases J with rfl|⟨w,rfl,_⟩<;>kernel_rfl)];refine Ok.mk rfl rfl fun t Z e3 _=>?_
 have c3:=c2.trans (c2.C.toE Z);have P:=Z.at c2.hb O;have Q:B.c≠h2.next:=by have:=c2.hb _ _ c2.C.core;omega
 have U:B.c≠h.next+1:=fun y=>a.out _ f4 (.inl y.symm)
 simp only[I,Ac,aB,Aa];rw[c3.C.ldN];simp only[I,Ac];rw[Cj (by show _<=X.nx+1;omega) (by show X.nx+1<=_;omega)];refine Ok.st1 c3.C.core rfl rfl (by show 5<7;decide) ?_;have c4:=c3.trans (c3.C.Bu3 X.gen X.ep (X.nx+1) X.st);have u:(t.put B.c (.cells (({ X with S:=T,nx:=X.nx+1 }:Co).cells B) 109)).get h2.next=some (.cells x.cells 47):=by rw[Ag _ Q];exact e3
 have q:(t.put B.c (.cells (({ X with S:=T,nx:=X.nx+1 }:Co).cells B) 109)).get (h.next+1)=some (.cells (Me.nil 0).cells 47):=by rw[Ag _ U];exact P
 have m:Ej D (t.put B.c (.cells (({ X with S:=T,nx:=X.nx+1 }:Co).cells B) 109)) B X (Bg F h D) { X with S:=T,nx:=X.nx+1 }:=c4;show Ok (Rt _ _ _ _ _ _ (t.put B.c (.cells (({ X with S:=T,nx:=X.nx+1 }:Co).cells B) 109))) _;generalize t.put B.c (.cells (({ X with S:=T,nx:=X.nx+1 }:Co).cells B) 109)=h4 at m u q⊢;have l4:=m.hb _ _ q;simp only[Rt,dr];rw[Bp u rfl (Ai (n:=6) rfl)];refine Ok.stW q rfl rfl ?_;rw[Gg (Af _ _ _) A6f.1 A6f.2 rfl];exact .ret ⟨x,_,mt',rfl,Ej.Bp9 E m ((Av.refl (S:=fun i=>i=h.next+1) h4).Ar (.inl rfl) l4 _) (fun i hi=>by subst hi;omega) (m.hb.put l4 _),cc,pt,rfl⟩
end
def Aru(g:Gm)(w:Wr):Bool:=decide (0<=w.block)&&decide (w.block<g.B)
def Am1(g:Gm)(L:List Wr):Bool:=L.all (Aru g)&&(decide (1<=(L.length:Int))&&decide ((L.length:Int)<=4))
theorem Bou {p:Wr->Bool}{L:List Wr}(a:i<L.length)(h:(L.take i).all p=true)(hp:p L[i]=true):(L.take (i+1)).all p=true:=by
 rw[eh,aC a,List.all_append,h];simp[hp]
section
variable{L:List Wr}(fb:0<L.length->F b)(hL:L.length<=2000000)
include fb hL
theorem Bb3:∀(f i:Nat) (h:Ab),L.length-i<f->i<=L.length->(L.take i).all (Aru X.S.g)=true->Cz h B X F->A0d h v b L ->
 Ok (P9 K f (.ptr B.c 0) v v (I L.length) (I i) h) fun w h'=>w=.bool (Am1 X.S.g L)/\Ext h h':=by
 intro f;induction f with
 | zero=>intro i h t;omega
 | succ f u=>
  intro i h t J k C W;rw[P9];simp only[I,Ac];by_cases e:i<L.length
  ·have:decide ((i:Int)<(L.length:Int))=true:=by simp;omega
   simp only[this,Aa,Alq];rw[W.at e];have wf:=W.wf _ (av e);have m:=Bou (p:=Aru X.S.g) e k;have j:Aru X.S.g L[i]=false->L.all (Aru X.S.g)=false:=fun y=>by
    rw[List.all_eq_false];exact⟨_,av e,by rw[y];simp⟩
   generalize L[i]=w at wf m j⊢;have wl:=Wr.len wf
   try simp only[Aa]
   rw[Brd];refine Ok.mk rfl wl fun O n e3 _=>?_
   rw[Al e3 rfl (v:=I w.block) rfl];refine Ok.An (A9x (K:=K) (C.toE n).C w.block) ?_;rintro _ h4 ⟨rfl,D⟩;have x:=n.trans D;show Ok (Arw (.bool (Aru X.S.g w)) _) _;cases hw:Aru X.S.g w with
   | false=>
    simp only[Aa];exact .ret ⟨by unfold Am1;rw[j hw,bA],x⟩
   | true=>
    simp only[Aa,Anj,Ac];rw[Cj,show((i:Nat):Int)+1=((i+1:Nat):Int) by omega];refine Ok.mono (u (i+1) h4 (by omega) (by omega) (m hw) (C.toE x).C (W.frame fun y=>x.get _ (C.M.lt _ (.inl (fb y))) id)) ?_;rintro w P ⟨a,E⟩;exact⟨a,x.trans E⟩
  ·have:decide ((i:Int)<(L.length:Int))=false:=by simp;omega
   have G:Cg (.tuple []) false=false/\Cg (.tuple []) true=false:=⟨rfl,rfl⟩;have H:i=L.length:=by omega
   rw[H,cN]at k;simp only[this,Aa,Al2];rw[W.F3];unfold Am1;rw[k];simp only[I,Ac];by_cases q:1<=(L.length:Int)
   ·simp only[q,aB,Aa,Ac]
    rw[W.F3];simp only[I,Ac,Adj,Aa];exact .ret ⟨rfl,Av.refl _⟩
   ·simp only[q,aA,Aa,Ac,Adj]
    exact .ret ⟨rfl,Av.refl _⟩
end
end
section
def fB(W:List Wr)(k:Nat):Nat:=((W[k]?).getD ⟨0,Dp⟩).block.toNat
def fY(W:List Wr)(k:Nat):List Nat:=((W[k]?).getD ⟨0,Dp⟩).bytes
def fX(xs:List Me)(k:Nat):Me:=(xs[k]?).getD (Me.nil 0)
def Aci(es:List Me)(W:List Wr)(xs:List Me):Nat->List Me
 | 0=>es
 | n+1=>(Aci es W xs n).set (fB W n) (fX xs n)
def Afx(L:List (List Nat))(W:List Wr):Nat->List (List Nat)
 | 0=>L
 | n+1=>(Afx L W n).set (fB W n) (fY W n)
theorem A0l(es:List Me)(W:List Wr)(xs:List Me):∀n,(Aci es W xs n).length=es.length
 | 0=>rfl
 | n+1=>by unfold Aci;rw[bK,A0l es W xs n]
theorem A79(es:List Me)(W:List Wr)(xs a:List Me):∀n,n<=xs.length->Aci es W (xs++a) n=Aci es W xs n
 | 0,_=>rfl
 | n+1,h=>by
  unfold Aci;rw[A79 es W xs a n (by omega)];unfold fX;rw[bh (by omega)]
theorem Bmr {f n b m:Int}{bl:List Nat}(h0:0<=f)(a:f<=n)(j:n<f+m)(e:n<=281474976710655)(b0:0<=b)(b1:b<=255)(k:1<=m)(m1:m<=4):EOk ⟨1,f,m,b,0,0,bl⟩ 1 n:=by
 unfold EOk E9;rw[aG];refine⟨?_,?_,a,by show n-m<f;omega⟩
 ·unfold erB Aq0
  simp only[aR,Fl];refine⟨⟨h0,by omega⟩,⟨b0,b1⟩,⟨by decide,by decide⟩,?_⟩;simp[Fl];omega
 ·unfold frB
  simp only[aR,Fl];exact⟨⟨by decide,by decide⟩,⟨by decide,by decide⟩,⟨by decide,by decide⟩,⟨by decide,by decide⟩,by omega,e⟩
def Bvs(g:Gm)(xs:List Me):Prop:=∀x∈xs,meR g x=true
section
variable (A:Bj disp)(hK:10000<K)(fb:0<W.length->F b)(hL:W.length<=4)
include A hK fb hL
theorem Bdu{s:EV}{q:Nat}{xs:List Me}(hx:W.length<=xs.length)(fq:0<xs.length->F q)(a:Co)(mo:Bvs a.S.g xs)(hw:∀w∈W,Aru a.S.g w=true)(hl:(a.es.length:Int)=a.S.g.B):∀(f i:Nat) (D:Ab) (Y:Co),W.length-i<f->i<=W.length->Ej h D B X F Y->A0d D v b W->Bvm D s q xs->Y=a.wes (Aci a.es W xs i) ->
 Ok (K4 (Ae TT disp K d false) (Ae TT disp K d true) K f (.ptr B.c 0) s v (I W.length) (I i) D) fun v h'=>v=I 0/\Ej h h' B X F (a.wes (Aci a.es W xs W.length)):=by
 intro f;induction f with
 | zero=>intro i D Y hf;omega
 | succ f ih=>
  intro i D Y hf hi c1 J P e;rw[K4];simp only[I,Ac];by_cases t:i<W.length
  ·have:decide ((i:Int)<(W.length:Int))=true:=by simp;omega
   simp only[this,Aa,Ajt];rw[J.at t];have wf:=J.wf _ (av t);have wh:=hw _ (av t);have wb:fB W i=W[i].block.toNat:=by unfold fB;rw[aC t];rfl
   generalize W[i]=w at wf wh wb⊢;have wl:=Wr.len wf;unfold Aru at wh;simp only[aR,aQ]at wh
   try simp only[Aa]
   rw[Brd];refine Ok.mk rfl wl fun h3 H e3 _=>?_
   have c3:=c1.trans (c1.C.toE H);have lc:=c3.hb _ _ c3.C.core;have l3:=c3.hb _ _ e3;have U:0<xs.length:=by omega
   have m:=P.row.frame (h':=h3) fun y=>H.get _ (c1.hb _ _ (P.row.block y)) id
   have lq:=c3.hb _ _ (m.block U);have n:i<xs.length:=by omega
   rw[Ku lc,c3.C.ldB];simp only[Aa,Aw];rw[Ku l3,Al e3 rfl (v:=I w.block) rfl];simp only[Aa,Aw];have ix:=m.ix n .i64;rw[ix,Ku lq,Bp (m.block U) rfl (Avh xs n)];simp only[Aa,Aw];have rg:=P.rng _ (av n);have V:=mo _ (av n);have Z:fX xs i=xs[i]:=by unfold fX;rw[aC n];rfl
   generalize xs[i]=x at rg V Z⊢;have O:=c3.C.lift;have ms:=Ax1 (K:=K) O.sm O.map O.hb (x:=x) (fun _=>rg) w.block;have el:Y.es.length=a.es.length:=by rw[e];exact A0l _ _ _ _
   have eg:Y.S.g=a.S.g:=by rw[e];rfl
   have sf:A81 Y.S.g Y.es w.block x=(Y.es.set (fB W i) x,0):=by
    unfold A81;rw[aG ⟨wh.1,by omega⟩,eg,aG V,wb]
   rw[sf]at ms;refine Ok.bC (S:=fun i=>i=B.ml\/i=B.ll) ms (fun _ _ p=>p.2.2.1) ?_;rintro _ al h6 s3 ⟨rfl,m6,_,Q⟩ u T _;have E:=c3.C.Bt4 (m6.frame (u.get _) (u.get _) (u.get _)) T (u.hb Q);simp only[Ak8,Ac];rw[Cj,show((i:Nat):Int)+1=((i+1:Nat):Int) by omega];have G:∀j,F j->h6.get j=D.get j:=fun j hj=>by
    have l:=c1.C.M.lt _ (.inl hj);rw[E.k.get _ (aK l H.next) fun y=>y hj,H.get _ l id]
   refine ih (i+1) h6 _ (by omega) (by omega) (c3.trans E) (J.frame fun y=>G _ (fb y)) ⟨P.row.frame fun y=>G _ (fq y),P.rng⟩ ?_;rw[e];show a.wes ((Aci a.es W xs i).set (fB W i) x)=_;rw[<-Z];rfl
  ·have:decide ((i:Int)<(W.length:Int))=false:=by simp;omega
   have ei:i=W.length:=by omega
   subst ei;simp only[this,Aa,Aam];exact .ret ⟨rfl,e▸c1⟩
def Bwj(h h':Ab)(B:Cb)(X:Co)(F:Nat->Prop)(a:Co)(L:List (List Nat))(W:List Wr):Prop:=∃Z mt',Ej h h' B X F Z/\Cc Z (Afx L W W.length) mt'/\Sq Z/\Z.S.g=a.S.g/\Z.gen=a.gen/\Z.ep=a.ep/\Z.st=a.st/\Z.nx=a.nx+W.length/\a.S.free-W.length<=Z.S.free
theorem Bdi {L:List (List Nat)}(hd:22<=d)(U:∀j,F j->j<h.next)(m:Co)(n0:1<=m.nx)(al:m.ep=1)(hw:∀w∈W,Aru m.S.g w=true)(hb:(m.es.length:Int)=m.S.g.B/\m.S.g.B<=256)(bu:4<=m.S.free)(bw:m.nx+4<=281474976710655):∀(f i:Nat) (p:Ab) (Y:Co) (s:EV) (q:Nat) (xs:List Me) (mt:Int->Int),W.length-i<f->i<=W.length->xs.length=i->Ej h p B X F Y->Cz p B Y (fun j=>F j\/(0<xs.length/\j=q))->(0<xs.length->h.next<=q)->A0d p v b W->Bvm p s q xs->Y.es=m.es->Y.S.g=m.S.g->Y.gen=m.gen->Y.ep=m.ep->Y.st=m.st->Y.nx=m.nx+i->m.S.free-i<=Y.S.free->Bvs m.S.g xs->Cc (Y.wes (Aci m.es W xs i)) (Afx L W i) mt->Sq (Y.wes (Aci m.es W xs i)) ->
 Ok (J8 (Ae TT disp K d false) (Ae TT disp K d true) K f (.ptr B.c 0) v (I m.nx) s v (I W.length) (I i) p) fun v h'=>v=I 0/\Bwj h h' B X F m L W:=by
 intro f;induction f with
 | zero=>intro i p Y s q xs mt hf;omega
 | succ f ih=>
  intro i p Y s q xs mt hf hi b5 c1 C1 hq J P eE O V D aa eN eF mo cc sq;rw[J8];simp only[I,Ac];have aw:∀j,F j->j<p.next:=fun j hj=>c1.C.M.lt _ (.inl hj)
  by_cases u:i<W.length
  ·have:decide ((i:Int)<(W.length:Int))=true:=by simp;omega
   simp only[this,Aa,Ajc];rw[J.at u];have wf:=J.wf _ (av u);have wh:=hw _ (av u);have wb:fB W i=W[i].block.toNat/\fY W i=W[i].bytes:=by unfold fB fY;rw[aC u];exact⟨rfl,rfl⟩
   generalize W[i]=w at wf wh wb⊢;obtain⟨wb,wy⟩:=wb;have wl:=Wr.len wf;unfold Aru at wh;simp only[aR,aQ]at wh
   try simp only[Aa]
   rw[Brd];refine Ok.mk rfl wl fun h3 x3 e3 _=>?_
   rw[J.F3]
   try simp only[Aa]
   rw[Al e3 rfl (v:=I w.block) rfl]
   try simp only[Aa]
   rw[Bp e3 rfl (show Oy w.cells 1 32=some (Bh w.bytes) by
    rw[Fw (by omega)];unfold Wr.cells;rw[List.drop_succ_cons,dC,bR (by rw[Be,wf.1];omega)])]
   have fe:=Bia 1 m.nx W.length w.block wf.1;rw[<-En.Js]at fe;rw[show(EV.int .i64 1)=I 1 from rfl,show(EV.int .i64 m.nx)=I m.nx from rfl,Ay fe];have C3:=(C1.toE x3).C;have ek:EOk ⟨1,m.nx,W.length,w.block,0,0,w.bytes⟩ Y.ep Y.nx:=by
    rw[D,al,eN];exact Bmr (by omega) (by omega) (by omega) (by omega) (by omega) (by omega) (by omega) (by omega)
   have p0:=Bv7 A hK hd (⟨wf.1,wf.2⟩:(⟨1,m.nx,W.length,w.block,0,0,w.bytes⟩:En).Wf) C3 cc ek (by omega) (by omega);refine Ok.An p0 ?_;rintro _ h4 ⟨x,Z,ab,rfl,c4,cz,Q,eZ⟩;have E:Ej p h4 B Y (fun j=>F j\/(0<xs.length/\j=q)) Z:=(C1.toE x3).trans c4;have ad:Ej h h4 B X F Z:=c1.trans (E.less fun j=>.inl);have rg:=Q.rg;simp only[Aa];refine Ok.mk rfl rfl fun T x5 e5 _=>?_
   have G:=ad.trans (ad.C.toE x5);have H:=E.trans (E.C.toE x5);have ae:∀j,(F j\/(0<xs.length/\j=q))->j<p.next->T.get j=p.get j:=fun j hj l=>H.k.get _ l fun y=>y hj
   simp only[I,Ac,aD,aA,Aa,Ak1];rw[Bp e5 rfl (Ai (n:=6) rfl)];have af:=P.row.frame (h':=T) fun y=>ae _ (.inr ⟨y,rfl⟩) (c1.hb _ _ (P.row.block y))
   have ag:=G.hb;refine Qe (z:=[.int .i64 0,.int .i64 0,.int .i64 0,.int .i64 0,.int .i64 0,.int .i64 0]) (v:=.agg x.cells) af ag rfl rfl rfl (by omega) (by omega) fun h6 ai ct c6=>?_
   have ay:=c6.hb ag;have C6:=H.C.Bqs c6 (fun j hj hl=>.inr ⟨hj.1,hj.2⟩) ay;have az:Cz h6 B Z (fun j=>F j\/(0<(xs++[x]).length/\j=T.next+1)):=C6.less fun j hj=>by
    rcases hj with hj|⟨_,rfl⟩
    ·exact .inl (.inl hj)
    ·exact .inr ⟨by omega,by omega⟩
   have aj:Kf F T h6:=c6.mono fun j hj y=>by
    have a:=U j y;have b:=hq hj.1;have e:=hj.2;omega
   have a0:Ej h h6 B X F Z:=G.trans ⟨C6.less fun j hj=>.inl (.inl hj),aj,Ck.refl _⟩;have a1:∀j,F j->h6.get j=p.get j:=fun j hj=>by
    have l:=aw j hj;have l5:=aK l H.k.next
    rw[aj.get _ l5 (fun y=>y hj)];exact ae _ (.inl hj) l
   simp only[Aju,Ac];rw[Cj,show((i:Nat):Int)+1=((i+1:Nat):Int) by omega];have lx:(xs++[x]).length=xs.length+1:=by simp
   have bp:=G.k.next
   have ll:=Q.lv (by show ¬(1:Int)=2;decide);have pg:Z.S.g=Y.S.g:=Q.g;have pn:Z.gen=Y.gen/\Z.ep=Y.ep/\Z.nx=Y.nx+1/\Z.st=Y.st:=Q.nm;have pf:Y.S.free-1<=Z.S.free:=Q.free;have ps:x.seq=Y.nx:=Q.sq;have sl:=A0l m.es W xs i;have jl:fB W i<(Aci m.es W xs i).length:=by rw[sl,wb];omega
   have cs:=Cc.set cz (j:=fB W i) jl (x:=x) (bs:=w.bytes) (.inr ll) (by show x.seq<Z.nx;omega);have mx:meR m.S.g x=true:=by
    have:=ll.meR;rw[show((Z.wes (Aci m.es W xs i)).S.g)=Z.S.g from rfl,pg,O]at this;exact this
   have ex:Aci m.es W (xs++[x]) (i+1)=(Aci m.es W xs i).set (fB W i) x:=by
    show(Aci m.es W (xs++[x]) i).set (fB W i) (fX (xs++[x]) i)=_;rw[A79 _ _ _ _ _ (by omega)];congr 1;unfold fX;rw[bV (by omega),show i-xs.length=0 by omega];rfl
   have a3:Afx L W (i+1)=(Afx L W i).set (fB W i) w.bytes:=by
    show(Afx L W i).set (fB W i) (fY W i)=_;rw[wy]
   have a6:Cc (Z.wes (Aci m.es W (xs++[x]) (i+1))) (Afx L W (i+1)) ab:=by rw[ex,a3];exact cs
   have a7:Sq (Z.wes (Aci m.es W (xs++[x]) (i+1))):=by
    rw[ex];refine Sq.set (X:=Y.wes (Aci m.es W xs i)) sq cc.sq rfl fun _=>?_
    show Y.nx<=x.seq;omega
   have:=ih (i+1) h6 Z (.slice (T.next+1) 0 (xs.length+1) (xs.length+1) true) (T.next+1) (xs++[x]) ab (by omega) (by omega) (by omega) a0 az (fun _=>by omega) (J.frame fun y=>a1 _ (fb y)) ⟨by rw[lx,cX,dZ,show([x].map Me.cells).flatten=(EV.agg x.cells).cells by simp[EV.cells]];exact ai,fun z t=>by
    rcases bO.1 t with t|t
    ·exact P.rng z t
    ·rw[aO.1 t];exact rg⟩ (eZ.trans eE) (pg.trans O) (pn.1.trans V) (pn.2.1.trans D) (pn.2.2.2.trans aa) (by omega) (by omega) (fun z t=>by
    rcases bO.1 t with t|t
    ·exact mo z t
    ·rw[aO.1 t];exact mx) a6 a7
   exact this
  ·have:decide ((i:Int)<(W.length:Int))=false:=by simp;omega
   simp only[this,Aa,Aaz];rw[J.F3];have ei:i=W.length:=by omega
   have ba:∀w∈W,Aru Y.S.g w=true:=by rw[O];exact hw
   have ws:=Bdu A hK (X:=Y) (F:=fun j=>F j\/(0<xs.length/\j=q)) (v:=v) (b:=b) (W:=W) (fun y=>.inl (fb y)) hL (d:=d) (s:=s) (q:=q) (xs:=xs) (by omega) (fun y=>.inr ⟨y,rfl⟩) Y (by rw[O];exact mo) ba (by rw[eE,O];exact hb.1) K 0 p Y (by omega) (by omega) (Ej.refl C1) J P rfl;refine Ok.mono ws ?_;rintro _ h2 ⟨rfl,c2⟩;subst ei;rw[eE]at c2;exact⟨rfl,_,mt,c1.trans (c2.less fun j=>.inl),cc,sq,O,V,D,aa,eN,eF⟩
end
end
theorem Beb:Am1 g W=true↔(∀w∈W,Aru g w=true)/\1<=W.length/\W.length<=4:=by
 unfold Am1;simp only[aR,dM,aQ];constructor
 ·rintro⟨a,b,c⟩;exact⟨a,by omega,by omega⟩
 ·rintro⟨a,b,c⟩;exact⟨a,by omega,by omega⟩
theorem A8w(A:Bj disp)(hK:3000000<K){L:List (List Nat)}(fb:0<W.length->F b)(hL:W.length<=2000000)(hd:28<=d)(C:Cz h B X F)(J:Jc X L mt)(hg:X.gen+1100<=281474976710655)(f:X.nx+70000<=281474976710655)(n:A0d h v b W):
 Ok (Ae TT disp K d false 45 [.ptr B.c 0,v] h) fun v h'=>∃(e:Int) (Y:Co) (L':List (List Nat)) (mt':Int->Int),v=I e/\Ej h h' B X F Y/\Jc Y L' mt'/\Opd X Y /\
 ((Am1 X.S.g W=false/\e=13/\Y=X/\L'=L)\/(Am1 X.S.g W=true/\e=0/\L'=Afx L W W.length/\(X.S.g.De<=X.prs->Y.gen=X.gen/\Y.nx=X.nx+W.length))):=by
 obtain⟨e,rfl⟩:∃k,d=k+1:=⟨d-1,by omega⟩;rw[Avr A (by omega)];simp only[Ark,Ac4,Aa];rw[n.F3];refine Ok.An (Bb3 (K:=K) fb hL K 0 h (by omega) (by omega) (by simp) C n) ?_;rintro _ h2 ⟨rfl,G⟩;have c2:=C.toE G;cases hok:Am1 X.S.g W with
 | false=>
  simp only[Aa];exact .ret ⟨13,X,L,mt,rfl,c2,J,Opd.refl X,.inl ⟨by trivial,rfl,rfl,rfl⟩⟩
 | true=>
 obtain⟨hw,H,p⟩:=Beb.1 hok;simp only[Aa,Aid];refine Ok.An (A02 A (by omega) c2.C J.c J.sq J.fr (by omega) (by omega) (d:=e) (by omega)) ?_;rintro _ D ⟨rfl,Y,mt',c3,q,O,r⟩;have a:=c2.trans c3;have mu:=r.Btz q;have s0:=J.c.c.sm.s0;have b1:=J.c.c.sm.b1;have b0:=J.c.c.sm.b0;have tn:=r.t.nx;have P:=r.t.gen;have E:=q.nm;have m:=r.t.g;have lb:=J.c.lb;simp only[I,Ac,aD,aA,Aa,Ah4];rw[a.C.ldN];have W3:A0d D v b W:=n.frame fun y=>a.k.get _ (C.M.lt _ (.inl (fb y))) fun w=>w (fb y)
 rw[W3.F3];refine(Bdi A (by omega) (F:=F) (h:=h) fb p (L:=L) (d:=e) (by omega) (fun j hj=>C.M.lt _ (.inl hj)) Y E.2.2 E.2.1 (by rw[m];exact hw) (by rw[m,r.t.len];omega) (by omega) (by omega) K 0 D Y .Ao 0 [] mt' (by omega) (by omega) rfl a (a.C.less fun j hj=>hj.elim id fun y=>absurd y.1 (bS 0)) (fun y=>absurd y (bS 0)) W3 ⟨Cs.nil _ _ _ _,fun x f=>by cases f⟩ rfl rfl rfl rfl rfl (by simp) (by omega) (fun x f=>by cases f) q O).mono ?_;rintro _ h4 ⟨rfl,Z,u,c4,Q,sz,z1,T,U,V,z5,z6⟩;refine⟨0,Z,_,u,rfl,c4,⟨Q,sz,by rw[z1,m];omega⟩,⟨z1.trans m,⟨U.trans r.t.nm.1,V.trans r.t.nm.2⟩,by omega,by omega⟩,.inr ⟨by trivial,rfl,rfl,fun hr=>?_⟩⟩;have:=r.same hr;subst this;exact⟨T,z5⟩
section
structure Did(o:H0)(X:Co)(L:List (List Nat))(Y:Co)(L':List (List Nat))(e:Int):Prop where
 w:o.kind=1->(Am1 X.S.g (wrs o.x o.bs)=false/\e=13/\L'=L)\/(Am1 X.S.g (wrs o.x o.bs)=true/\e=0/\L'=Afx L (wrs o.x o.bs) o.bs.length/\(X.S.g.De<=X.prs->Y.gen=X.gen/\Y.nx=X.nx+o.bs.length))
 t:o.kind=2->(We X.S.g o.x o.y=false/\e=13/\L'=L)\/(We X.S.g o.x o.y=true/\e=0/\L'=Aoz L o.x.toNat o.y.toNat)
 r:¬o.kind=1->¬o.kind=2->L'=L
 er:¬e=0->e=13/\Y=X
 f:o.kind=5->Y.gen=X.gen/\Y.nx=X.nx
 k:o.kind=6->e=0/\Y.gen=X.gen+1/\Y.nx=X.nx
def Bn4(h h':Ab)(B:Cb)(F:Nat->Prop)(o:H0)(X:Co)(L:List (List Nat))(v:EV):Prop:=∃(e:Int) (Y:Co) (L':List (List Nat)) (mt':Int->Int),v=I e/\Ej h h' B X F Y/\Jc Y L' mt'/\Opd X Y/\Did o X L Y L' e
theorem Ajq{L:List (List Nat)}{e:Int}(a:¬o.kind=1)(h2:¬o.kind=2)(f:¬o.kind=5)(j:¬o.kind=6)(er:¬e=0->e=13/\Y=X):Did o X L Y L e:=⟨fun y=>absurd y a,fun y=>absurd y h2,fun _ _=>rfl,er,fun y=>absurd y f,fun y=>absurd y j⟩
section
variable{L:List (List Nat)}
theorem Jc.ckp(J:Jc X L mt)(c:Cc Y L mt)(k:Ckp X Y):Jc Y L mt/\Opd X Y:=by
 have f:=(k.free J.c).1;have g:=k.g;have n:=k.nm;have fr:=J.fr;exact⟨⟨c,J.sq.es k.es,by rw[g];omega⟩,⟨g,⟨n.2.1,n.2.2.2⟩,by omega,by omega⟩⟩
theorem Jc.cln(J:Jc X L mt)(c:Cc Y L mt')(s:Sq Y){z:Int}(k:Cln X Y z (blN z X.es X.es.length).length):Jc Y L mt'/\Opd X Y:=by
 have m:=J.c.Bu1 J.sq z;have t:=k.tdy J.c m;have f:=t.free;have g:=t.g;have fr:=J.fr;exact⟨⟨c,s,by rw[g];omega⟩,(t.more (by omega)).opd⟩
theorem Jc.rm{n:Int}(J:Jc X L mt)(c:Cc Y L mt')(s:Sq Y)(r:Rm X Y n):Jc Y L mt'/\Opd X Y:=by
 have t:=r.t;have f:=t.free;have g:=t.g;have fr:=J.fr;exact⟨⟨c,s,by rw[g];omega⟩,t.opd⟩
end
theorem Bg4(A:Bj disp)(hK:3000000<K){L:List (List Nat)}(C:Cz h B X F)(J:Jc X L mt)(hg:X.gen+1100<=281474976710655)(hx:X.nx+70000<=281474976710655)(O:o.At h)(hl:o.bs.length<=1048576)(fq:0<o.bs.length->F o.bq)(rx:Rng o.x)(n9:¬o.kind=9)(hd:31<=d):
 Ok (Ae TT disp K d false 13 [.agg o.cells,.ptr B.c 0] h) fun v h'=>Bn4 h h' B F o X L v:=by
 obtain⟨e,rfl⟩:∃k,d=k+1:=⟨d-1,by omega⟩;rw[Anz A (by omega)];simp only[Ae8,Aa];have ol:=H0.len O.ev;obtain⟨P,e_,x1,V,n1⟩:=nW h (.cells o.cells 34);rw[e_];have c1:=C.toE x1;have e0:∀k:EV->R,Fm (.ptr h.next 0) P k=k (I o.kind):=fun k=>(Aaa V k).1
 have e1:∀k:EV->R,Fm (.ptr h.next 1) P k=k (I o.x):=fun k=>(Aaa V k).2.1
 have e2:∀k:EV->R,Fm (.ptr h.next 2) P k=k (I o.y):=fun k=>(Aaa V k).2.2.1
 have fin:∀{x:R} {Q:EV->Ab->Prop},Ok x Q->(∀v h',Q v h'->Bn4 P h' B F o X L v)->Ok (An x fun v h=>some (v,h)) fun v h'=>Bn4 h h' B F o X L v:=fun a q=>by
  refine Ok.An a ?_;intro v h' p;obtain⟨e,Y,L',mt',rfl,c,j,op,di⟩:=q _ _ p;exact .ret ⟨e,Y,L',mt',rfl,c1.trans c,j,op,di⟩
 rw[e0];simp only[I,Ac];by_cases f:o.kind=1
 ·simp only[f,aB,Aa]
  rw[Bp V rfl (Ai ol)];simp only[F9,Aa];obtain⟨h2,e_,x2,g2,n2⟩:=nW P (.cells o.cells 34);rw[e_];have af:=x2.hb c1.hb;rw[(Aaa g2 _).2.2.2];have R1:=O.row.frame (h':=h2) fun y=>by
   have l:=C.M.lt _ (.inl (fq y));rw[x2.get _ (by omega) id,x1.get _ l id]
  rw[R1.F3];refine Ok.An (A2j (K:=K) (by omega) hl K 0 h2 .Ao 0 (by omega) (by omega) af (Av.refl h2) g2 (by omega) (fun y=>by have l:=C.M.lt _ (.inl (fq y));omega) R1 (Cs.nil _ _ _ _) (fun y=>by omega)) ?_;rintro v h3 ⟨q,W,x3,a6,lq⟩;have T:=x2.trans x3;have C3:Cz h3 B X (fun i=>F i\/(0<(wrs o.x o.bs).length/\i=q)):=(c1.C.ext T).less fun i hi=>by
   rcases hi with hi|⟨y,rfl⟩
   ·exact .inl hi
   ·rw[Ack]at y
    have:=lq y;exact .inr ⟨by omega,this.2⟩
  refine Ok.An (A8w A hK (F:=fun i=>F i\/(0<(wrs o.x o.bs).length/\i=q)) (fun y=>.inr ⟨y,rfl⟩) (by rw[Ack];omega) (d:=e) (by omega) C3 J hg hx W) ?_;rintro _ h4 ⟨e4,Y,L',mt',rfl,c4,t,u,w4⟩;have c4:=c4.less (F:=F) fun i=>.inl
  rw[Ack]at w4;refine .ret ⟨e4,Y,L',mt',rfl,(c1.trans (c1.C.toE T)).trans c4,t,u,⟨fun _=>?_,fun y=>by omega,fun y=>absurd f y,fun y=>?_,fun y=>by omega,fun y=>by omega⟩⟩
  ·rcases w4 with⟨a,b,c,d⟩|w
   ·exact .inl ⟨a,b,d⟩
   ·exact .inr w
  ·rcases w4 with⟨a,b,c,d⟩|w
   ·exact⟨b,c⟩
   ·exact absurd w.2.1 y
 simp only[f,aA,Aa];by_cases E:o.kind=2
 ·simp only[E,aB,Aa]
  rw[e1,e2];refine fin (A2s A (by omega) c1.C J hg hx (d:=e) (by omega) _ _) ?_;rintro _ h2 ⟨e4,Y,L',mt',rfl,c4,t,u,w4⟩;refine⟨e4,Y,L',mt',rfl,c4,t,u,⟨fun y=>absurd y f,fun _=>?_,fun _ y=>absurd E y,fun y=>?_,fun y=>by omega,fun y=>by omega⟩⟩
  ·rcases w4 with⟨a,b,c,d⟩|⟨a,b,c,d⟩
   ·exact .inl ⟨a,b,d⟩
   ·exact .inr ⟨a,b,c⟩
  ·rcases w4 with⟨a,b,c,d⟩|w
   ·exact⟨b,c⟩
   ·exact absurd w.2.1 y
 simp only[E,aA,Aa];by_cases k3:o.kind=3
 ·simp only[k3,aB,Aa]
  rw[e1];refine Ok.An (Bbm A (by omega) c1.C J (d:=e) (by omega) _) ?_;rintro _ h2 ⟨bl,e4,Y,rfl,ai,c2,j2,r2,w2⟩;simp only[Aa];refine Ok.mk (by simp) (by rw[Be,ai]) fun h3 x3 _ _=>?_
  have c2:=c1.trans c2;refine .ret ⟨e4,Y,L,mt,rfl,c2.trans (c2.C.toE x3),j2,r2.opd,Ajq f E (by omega) (by omega) fun y=>?_⟩;rcases w2 with w|w
  ·exact absurd w.2.2.1 y
  ·exact w.2
 simp only[k3,aA,Aa];by_cases k4:o.kind=4
 ·simp only[k4,aB,Aa]
  rw[e1];refine fin (Bcn A (by omega) c1.C J hg hx (d:=e) (by omega) _) ?_;rintro _ h2 ⟨e4,Y,mt',rfl,c4,t,u,w4⟩;exact⟨e4,Y,L,mt',rfl,c4,t,u,Ajq f E (by omega) (by omega) w4⟩
 simp only[k4,aA,Aa];by_cases G:o.kind=5
 ·simp only[G,aB,Aa]
  refine fin (A9u A (by omega) c1.C J (d:=e) (by omega)) ?_;rintro _ h2 ⟨rfl,Y,c4,t,u,w4⟩;exact⟨0,Y,L,mt,rfl,c4,t,u,⟨fun y=>absurd y f,fun y=>absurd y E,fun _ _=>rfl,fun y=>absurd rfl y,fun _=>w4,fun y=>by omega⟩⟩
 simp only[G,aA,Aa];by_cases H:o.kind=6
 ·simp only[H,aB,Aa]
  refine fin (Apu A (by omega) c1.C J.c (by omega) (by omega) (d:=e) (by omega)) ?_;rintro _ h2 ⟨rfl,Y,c4,U,k⟩;obtain⟨t,u⟩:=J.ckp U k;exact⟨0,Y,L,mt,rfl,c4,t,u,⟨fun y=>absurd y f,fun y=>absurd y E,fun _ _=>rfl,fun y=>absurd rfl y,fun y=>by omega,fun _=>⟨rfl,k.nm.1,k.nm.2.2.1⟩⟩⟩
 simp only[H,aA,Aa];by_cases k7:o.kind=7
 ·simp only[k7,aB,Aa]
  rw[e1];have m:=J.c.Bu1 J.sq o.x;have s1:=J.c.c.sm.s1;have s0:=J.c.c.sm.s0;have fr:=J.fr;cases hz:X.closed o.x with
  | false=>
   refine fin (Bbu A (by omega) c1.C (d:=e) (by omega) hz rx) ?_;rintro _ h2 ⟨rfl,c4⟩;exact⟨13,X,L,mt,rfl,c4,J,Opd.refl X,Ajq f E G H fun _=>⟨rfl,rfl⟩⟩
  | true=>
   refine fin (A5g A (by omega) c1.C J.c J.sq (d:=e) (by omega) hz rx (by omega) (by omega) (by omega)) ?_;rintro _ h2 ⟨rfl,Y,mt',c4,U,sy,k⟩;obtain⟨t,u⟩:=J.cln U sy k;exact⟨0,Y,L,mt',rfl,c4,t,u,Ajq f E G H fun y=>absurd rfl y⟩
 simp only[k7,aA,Aa];by_cases k8:o.kind=8
 ·simp only[k8,aB,Aa]
  rw[e1];by_cases hn:o.x<0\/X.S.g.D*X.S.g.Z<o.x
  ·refine fin (Bid A c1.C (d:=e) (by omega) hn) ?_
   rintro _ h2 ⟨rfl,c4⟩;exact⟨13,X,L,mt,rfl,c4,J,Opd.refl X,Ajq f E G H fun _=>⟨rfl,rfl⟩⟩
  ·refine fin (Bbf A (by omega) c1.C J.c J.sq J.fr (by omega) (by omega) (d:=e) (by omega) (n:=o.x) (by omega) (by omega)) ?_
   rintro _ h2 ⟨rfl,Y,mt',c4,U,sy,r⟩;obtain⟨t,u⟩:=J.rm U sy r;exact⟨0,Y,L,mt',rfl,c4,t,u,Ajq f E G H fun y=>absurd rfl y⟩
 simp only[k8,n9,aA,Aa,Abb];exact .ret ⟨0,X,L,mt,rfl,c1,J,Opd.refl X,Ajq f E G H fun y=>absurd rfl y⟩
end
structure Gv(g:Gm)(S:Mi)(i:Nat):Prop where
 f:Bd7 S
 gg:S.g=g
 mem:∀d,d<g.D.toNat->∀x∈S.ps d,0<=x/\x<i/\Ada (G1 g) (G7 g) x=false
 all:∀z:Nat,z<i->Ada (G1 g) (G7 g) z=false->0<=Bu g z->(z:Int)∈S.ps (Bu g z).toNat
theorem Gv.step{S:Mi}(v:Gv g S i):Gv g (S.A5q (G1 g) (G7 g) i) (i+1):=by
 have s:Sm g:=by rw[<-v.gg];exact v.f.calm.sm
 unfold Mi.A5q;cases u:Ada (G1 g) (G7 g) (i:Int)with
 | true=>
  rw[aG rfl];refine⟨v.f,v.gg,fun d hd x k=>?_,fun z t j n=>?_⟩
  ·have:=v.mem d hd x k;exact⟨this.1,by omega,this.2.2⟩
  ·rcases cZ z i with y|y
   ·exact v.all z y j n
   ·have:z=i:=by omega
    subst this;rw[u]at j;cases j
 | false=>
  rw[aF (by decide)];have e:(S.Ala i).ps=(Abk g g.D.toNat S.ps i).2:=by show(Abk S.g S.g.D.toNat S.ps i).2=_;rw[v.gg]
  have fresh:=v.f.Ala i;have nm:∀d,d<g.D.toNat->(i:Int) ∉ S.ps d:=fun d hd hm=>by have:=v.mem d hd _ hm;omega
  have E:hasB S.ps g.D.toNat i=false:=by
   cases h:hasB S.ps g.D.toNat i with
   | false=>rfl
   | true=>
    obtain⟨d,hd,hm⟩:=J9.1 h;exact absurd hm (nm d hd)
  by_cases q:Bu g i<0
  ·have e2:(S.Ala i).ps=S.ps:=by rw[e];unfold Abk;rw[aG q]
   refine⟨fresh,v.gg,fun d hd x k=>?_,fun z t j n=>?_⟩
   ·rw[e2]at k
    have:=v.mem d hd x k;exact⟨this.1,by omega,this.2.2⟩
   ·rw[e2]
    rcases cZ z i with y|y
    ·exact v.all z y j n
    ·have:z=i:=by omega
     subst this;omega
  ·have p:(Bu g i).toNat<g.D.toNat:=by
    rcases Ko s (i:Int)with y|⟨_,y,_⟩<;>omega
   have len:(S.ps (Bu g i).toNat).length<g.Z.toNat:=by
    have nd:(S.ps (Bu g i).toNat++[(i:Int)]).Nodup:=by
     rw[List.nodup_append];refine⟨by have:=v.f.calm.nd _ (by rw[v.gg];exact p);exact this,by simp,fun a G b hb y=>?_⟩;rw[aO.1 hb]at y;subst y;exact nm _ p G
    have:=A68 s (d:=(Bu g i).toNat) nd fun w hw=>by
     rcases bO.1 hw with hw|hw
     ·have:=(v.f.calm.wf.ps (Bu g i).toNat (by rw[v.gg];exact p) w hw).1
      rw[v.gg]at this;exact this
     ·rw[aO.1 hw];omega
    rw[aH,List.length_singleton]at this;omega
   have t:=s.z0;have e2:(S.Ala i).ps=upd S.ps (Bu g i).toNat (S.ps (Bu g i).toNat++[(i:Int)]):=by
    rw[e];unfold Abk;rw[aF q,aF (by rw[E];decide),aG len]
   refine⟨fresh,v.gg,fun d hd x k=>?_,fun z t j n=>?_⟩
   ·rw[e2]at k
    unfold upd at k;split at k
    ·rename_i C
     rcases bO.1 k with k|k
     ·have:=v.mem _ p x k;exact⟨this.1,by omega,this.2.2⟩
     ·rw[aO.1 k];exact⟨by omega,by omega,u⟩
    ·have:=v.mem d hd x k;exact⟨this.1,by omega,this.2.2⟩
   ·rw[e2]
    unfold upd;rcases cZ z i with y|y
    ·have m:=v.all z y j n
     split
     ·rename_i C
      rw[C]at m;exact List.mem_append_left _ m
     ·exact m
    ·have:z=i:=by omega
     subst this;rw[aG rfl];exact List.mem_append_right _ (aO.2 rfl)
theorem Bga(a:rtB g=true):∀n,Gv g ((Mi.new g).Ajm (G1 g) (G7 g) n) n
 | 0=>⟨Ble a,rfl,fun d _ x e=>(by cases e),fun z f=>absurd f (br _)⟩
 | n+1=>(Bga a n).step
theorem Bp2(e:rtB g=true):∀i,i<3->Bu g (G1 g i)=i/\Bu g (G7 g i)=i/\¬G1 g i=G7 g i:=by
 have s:=Nw e;have j:=Bnl e;have:=s.d0;have:=s.p0;have:=s.z0;have d0:=Ws s (i:=0) (k:=0) (by omega) (by omega) (by omega);have d1:=Ws s (i:=1) (k:=0) (by omega) (by omega) (by omega);have d2:=Ws s (i:=2) (k:=0) (by omega) (by omega) (by omega);have o0:=Ws s (i:=0) (k:=1) (by omega) (by omega) (by omega);have o1:=Ws s (i:=1) (k:=1) (by omega) (by omega) (by omega);have f:=Ws s (i:=2) (k:=1) (by omega) (by omega) (by omega);intro i m;rcases(show i=0\/i=1\/i=2 by omega)with rfl|rfl|rfl
 ·have a:G1 g 0=0:=rfl
  have b:G7 g 0=1:=rfl;rw[a,b];refine⟨?_,?_,by decide⟩
  ·rw[<-d0];congr 1;omega
  ·rw[<-o0];congr 1;omega
 ·have a:G1 g 1=g.Z:=rfl
  have b:G7 g 1=g.Z+1:=rfl;rw[a,b];refine⟨?_,?_,by omega⟩
  ·rw[<-d1];congr 1;omega
  ·rw[<-o1];congr 1;omega
 ·have a:G1 g 2=2*g.Z:=rfl
  have b:G7 g 2=2*g.Z+1:=rfl;rw[a,b];refine⟨?_,?_,by omega⟩
  ·rw[<-d2];congr 1;omega
  ·rw[<-f];congr 1
def Tq(g:Gm):List (List Nat):=List.replicate g.B.toNat (List.replicate 32 0)
theorem Bqe(C:rtB g=true):Jc (Co.start g) (Tq g) (fun _=>-1):=by
 have s:=Nw C;have v:=Bga C (g.D*g.Z).toNat;have M:(Co.start g).S=(Mi.new g).Ajm (G1 g) (G7 g) (g.D*g.Z).toNat:=rfl;rw[<-M]at v;have ar:=Bp2 C;have t:(Co.start g).S.g=g:=v.gg;have O:∀z,arB (Co.start g) z->Ada (G1 g) (G7 g) z=true:=fun z ⟨i,n,h⟩=>by
  obtain⟨a,b,_⟩:=ar i n;refine Azq.2 ⟨i,n,?_⟩;have nn:∀w:Int,Bu g w=i->¬w = -1:=fun w hw y=>by
   have:=Lc s (z:=w) (by omega);omega
  exact h.imp (fun y=>⟨nn _ a,y⟩) fun y=>⟨nn _ b,y⟩
 have c:Cc (Co.start g) (Tq g) (fun _=>-1):=by
  refine⟨v.f.calm,rfl,fun i n=>by rw[t];exact ar i n,fun z k=>?_,fun i _=>?_,fun h=>absurd v.f.cl.1 h,?_,?_,fun b x bs u P=>?_,fun x u=>?_,⟨cb _,rfl,cb _⟩⟩
  ·have j:=O z k
   have z0:0<=z:=by
    obtain⟨i,n,h⟩:=k;obtain⟨a,b,_⟩:=ar i n;rcases h with h|h
    ·exact Lc s (by rw[h,show(Co.start g).cur i=G1 g i from rfl];omega)
    ·exact Lc s (by rw[h,show(Co.start g).By i=G7 g i from rfl];omega)
   refine⟨by rw[v.f.cl.1];omega,by rw[v.f.cl.2];omega,fun d hd hm=>?_,by rw[v.f.zs];decide⟩;rw[t]at hd;have:=(v.mem d hd z hm).2.2;rw[j]at this;cases this
  ·rw[v.f.zs];exact⟨by decide,fun _=>rfl⟩
  ·show(Tq g).length=(List.replicate g.B.toNat (Me.nil 0)).length
   unfold Tq;simp
  ·rw[t];show(List.replicate g.B.toNat (Me.nil 0)).length=_;simp
  ·have j:x=Me.nil 0:=bP (bY (show(List.replicate g.B.toNat (Me.nil 0))[b]? = some x from u))
   have h2:bs=List.replicate 32 0:=bP (bY (show(List.replicate g.B.toNat (List.replicate 32 0))[b]? = some bs from P));exact .inl ⟨j,h2⟩
  ·have j:x=Me.nil 0:=bP (show x∈List.replicate g.B.toNat (Me.nil 0)from u)
   rw[j];show(0:Int)<1;decide
 refine⟨c,fun b U x V u _ j=>?_,?_⟩
 ·have e:x=Me.nil 0:=bP (bY (show(List.replicate g.B.toNat (Me.nil 0))[b]? = some x from u))
  rw[e]at j;cases j
 ·have Q:∀z,(Co.start g).closed z=true->False:=fun z k=>by
   obtain⟨a,b⟩:=c.rng k;obtain⟨J,_,_,_,a5,E⟩:=Ff.1 k;rw[t]at b J E;have G:Ada (G1 g) (G7 g) z=false:=a5;have m:=v.all z.toNat (by omega) (by rw[show((z.toNat:Nat):Int)=z by omega];exact G) (by rw[show((z.toNat:Nat):Int)=z by omega];exact J);rw[show((z.toNat:Nat):Int)=z by omega]at m;have H:(Bu g z).toNat<g.D.toNat:=by
    rcases Ko s z with y|⟨_,y,_⟩<;>omega
   rw[J9.2 ⟨_,H,m⟩]at E;cases E
  have p:=c.Btr fun z k=>(Q z k).elim
  have q:=c.A3q.1;have s0:=s.s0;have d0:=s.d0;have p0:=s.p0;rw[t]at p q⊢;have T:4<=g.De:=by
   have:=dP (show 0<=g.D by omega) p0;unfold Gm.De;omega
  have:g.S*4<=g.S*F7 (Co.start g).S.ps g.D.toNat:=bT (by omega) (by omega);omega
theorem Aoy(S:Nat)(k:EV->R):Kl An2 (bin TT .eql 26) (.ptr S 0) .E3 k=k (.bool false):=by kernel_rfl
theorem Ai6(k:EV->R):Kl An2 (bin TT .eql 26) .E3 .E3 k=k (.bool true):=by kernel_rfl
structure So(h:Ab)(N:Nat)(v:EV)(b:Nat)(L:List H0):Prop where
 row:(L = []/\lenOf v=some 0)\/(b<N/\∃off r op,v=.slice b off L.length r op/\∀j (hj:j<L.length) (k:EV->R),Oz 72 (.ptr b (off+j*72)) h k=k (.agg L[j].cells))
 Qu:∀o∈L,o.At h/\(0<o.bs.length->o.bq<N)/\o.bs.length<=1048576/\Rng o.x
theorem So.frame {h':Ab}{N:Nat}{L:List H0}(r:So h N v b L)(e:∀i,i<N->h'.get i=h.get i):So h' N v b L:=by
 refine⟨?_,fun o m=>?_⟩
 ·rcases r.row with y|⟨hb,off,n,op,rfl,y⟩
  ·exact .inl y
  ·refine .inr ⟨hb,off,n,op,rfl,fun j hj k=>?_⟩
   have:=y j hj k;show oB _ (Aq4 (h'.get b) _ 72)=_;rw[e b hb];exact this
 ·obtain⟨a,c,d,f⟩:=r.Qu o m
  exact⟨⟨a.row.frame fun y=>e _ (c y),a.ev,a.pl⟩,c,d,f⟩
theorem So.F3{N:Nat}{L:List H0}(r:So h N v b L)(k:EV->R):Ev.F3 v k=k (I L.length):=by
 rcases r.row with⟨rfl,y⟩|⟨_,off,a,op,rfl,_⟩
 ·unfold Ev.F3;rw[y];rfl
 ·rfl
theorem So.at{N:Nat}{L:List H0}(r:So h N v b L){j:Nat}(hj:j<L.length)(k:EV->R):Z8 72 v (.int .i64 (j:Int)) (fun p=>Oz 72 p h k)=k (.agg L[j].cells):=by
 rcases r.row with⟨rfl,_⟩|⟨_,off,a,op,rfl,y⟩
 ·exact absurd hj (br _)
 ·rw[Lv hj];exact y j hj k
theorem Bi6:(List.replicate 3 (EV.int .i64 0)++[EV.Ao]++List.replicate 4 (EV.int .i64 0)++List.replicate 64 (EV.int .u8 0)).length=72:=by kernel_rfl
def inG(g:Gm)(b:Int):Bool:=decide (0<=b)&&decide (b<g.B)
theorem Bqt{x:Int}{bs:List Int}:Am1 g (wrs x bs)=(bs.all (inG g)&&(decide (1<=(bs.length:Int))&&decide ((bs.length:Int)<=4))):=by
 have h:(wrs x bs).all (Aru g)=bs.all (inG g):=by
  cases hb:bs.all (inG g)with
  | true=>
   rw[dM]at hb⊢;intro w hw;obtain⟨i,a,rfl⟩:=bc.1 hw;have a:=dG.1 a;have:=hb _ (av a);unfold Aru wrL;rw[List.getD,aC a];exact this
  | false=>
   rw[List.all_eq_false]at hb⊢;obtain⟨b,hb,e⟩:=hb;obtain⟨i,a,rfl⟩:=List.mem_iff_getElem.1 hb;refine⟨wrL x bs i,bc.2 ⟨i,dG.2 a,rfl⟩,?_⟩;unfold Aru wrL;rw[List.getD,aC a];exact e
 unfold Am1;rw[h,Ack]
end Go.Ev
