import Derived.Test.YtadnemjjlacolaaGreatNd
set_option linter.all false
namespace Go.Ev
open Go.Proofs
set_option maxRecDepth 100000
variable {h h' h0:Ab}{v v1 v5:EV}{K b d i j k q a3 a4 a5:Nat}{L L':List (List Nat)}{Q:EV->Ab->Prop}{g:Gm}{X Y:Co}{mt mt':Int->Int}{o:H0}{e blk:Int}{F G:Nat->Prop}{B:Cb}{disp:Nat->Option FT}{O:List H0}
theorem Au8{N:Nat}{L:List H0}(R0:So h N v b L)(a:i<L.length){k:Ab->R}(m:∀h2,Ext h h2->h2.get h.next=some (.cells L[i].cells 34)->h2.next=h.next+1->Ok (k h2) Q):
 Ok (Z8 72 v (.int .i64 (i:Int)) fun p=>Oz 72 p h fun w=>stE 72 (.ptr h.next 0) w (h.new (.cells (List.replicate 3 (.int .i64 0)++[.Ao]++List.replicate 4 (.int .i64 0)++List.replicate 64 (.int .u8 0)) 34)) k) Q:=by
 rw[R0.at a];have ol:=H0.len ((R0.Qu _ (av a)).1.ev);refine Ok.st L[i].cells (Ad _ _) rfl (by show Gk L[i].cells=72;rw[Bc,ol]) (Bm (by show _=L[i].cells.length;rw[ol];exact Bi6)) ?_;have t:=Bi6;generalize List.replicate 3 (EV.int .i64 0)++[EV.Ao]++List.replicate 4 (EV.int .i64 0)++List.replicate 64 (EV.int .u8 0)=f at t⊢;have u:Ext h ((h.new (.cells f 34)).put h.next (.cells L[i].cells 34)):=(Av.new h _:Ext _ _).Ar (.inr (aE _)) (aL _) _;exact m _ u (Af _ _ _) rfl
structure LwI(g:Gm)(X:Co)(L:List (List Nat))(mt:Int->Int)(i:Nat):Prop where
 j:Jc X L mt
 gg:X.S.g=g
 gen:X.gen<=1100*i
 nx:X.nx<=1+70000*i
 ep:X.ep=1
theorem LwI.start(a:rtB g=true):LwI g (Co.start g) (Tq g) (fun _=>-1) 0:=⟨Bqe a,(Bga a _).gg,cb _,by show(1:Int)<=_;omega,rfl⟩
theorem LwI.step(w:LwI g X L mt i)(j:Jc Y L' mt')(o:Opd X Y):LwI g Y L' mt' (i+1):=by
 have a:=w.gen;have b:=w.nx;have c:=o.gen;have d:=o.nx;exact⟨j,o.g.trans w.gg,by omega,by omega,o.nm.1.trans w.ep⟩
theorem LwI.more(w:LwI g X L mt i):LwI g X L mt (i+1):=⟨w.j,w.gg,by have:=w.gen;omega,by have:=w.nx;omega,w.ep⟩
section
section
variable (A:Bj disp)(hK:3000000<K)(hd:31<=d){N a2:Nat}(lF:∀i,i<N->F i)(l0:N<=h0.next)(hb0:HB h0)(f2:F a2)(ga2:h0.get a2=some (.cells (gL g) 23))(R0:So h0 N v1 b O)(hL:O.length<=60)
include A hK hd lF l0 hb0 f2 ga2 R0 hL
end
end
section
section
variable (A:Bj disp)(hK:3000000<K)(hd:31<=d){N:Nat}{n:Int}(lF:∀i,i<N->F i)(l0:N<=h0.next)(hb0:HB h0)(f3:F a3)(ga3:h0.get a3=some (.cells (gL g) 23))(R0:So h0 N v1 b O)(hL:O.length<=60)
include A hK hd hb0 f3 ga3
include lF l0 R0 hL
end
end
section
structure Bk(h:Ab)(v:EV)(q:Nat)(L:List (List Nat)):Prop where
 v:∃op,v=.slice q 0 L.length L.length op
 o:∃t,h.get q=some (.cells (L.map Bh).flatten t)\/∃z,h.get q=some (.vec (L.map Bh).flatten t z)
 w:∀l∈L,l.length=32
 n:0<L.length/\L.length<=256
theorem Bk.frame(b:Bk h v q L)(e:h'.get q=h.get q):Bk h' v q L:=⟨b.v,by rw[e];exact b.o,b.w,b.n⟩
theorem Bk.lt(b:Bk h v q L)(hb:HB h):q<h.next:=by
 obtain⟨t,o|⟨z,o⟩⟩:=b.o<;>exact hb _ _ o
theorem Bk.F3(b:Bk h v q L)(k:EV->R):Ev.F3 v k=k (I L.length):=by
 obtain⟨op,rfl⟩:=b.v;rfl
theorem Bk.rows(b:Bk h v q L):∀x∈L.map Bh,x.length=32:=fun x a=>by
 obtain⟨l,f,rfl⟩:=bc.1 a;rw[Be];exact b.w l f
theorem Bk.row(b:Bk h v q L):∃x,h.get q=some x/\rowOf x=some (L.map Bh).flatten:=by
 obtain⟨t,o|⟨z,o⟩⟩:=b.o
 ·exact⟨_,o,rfl⟩
 ·exact⟨_,o,rfl⟩
theorem Bk.at(b:Bk h v q L)(hj:j<L.length)(k:EV->R):Z8 32 v (.int .i64 (j:Int)) (fun p=>Oz 32 p h k)=k (.agg (Bh L[j])):=by
 obtain⟨op,rfl⟩:=b.v;obtain⟨x,f,m⟩:=b.row;have a:=A09 (n:=32) b.rows (j:=j) (by rw[bX];exact hj);rw[List.getElem_map]at a;rw[Lv hj,bJ];exact Bp f m a
theorem Bk.N9(b:Bk h v q L):Ev.N9 h 32 L.length v=some (L.map Bh).flatten/\(L.map Bh).flatten.length=L.length*32:=by
 have a:=Ape (n:=32) (L.map Bh) b.rows;rw[bX]at a;refine⟨?_,a⟩;obtain⟨op,rfl⟩:=b.v;obtain⟨x,m,f⟩:=b.row;have np:=b.n.1;show Bf (Nat.beq L.length 0) (some []) (Aq4 (h.get q) 0 (L.length*32))=_;have p:Nat.beq L.length 0=false:=by
  cases e:L.length with
  | zero=>omega
  | succ n=>rfl
 rw[p,Bo,m];have t:Oy (L.map Bh).flatten 0 (L.length*32)=some (L.map Bh).flatten:=by rw[<-a];exact Ai rfl
 cases x<;>first|(cases f;done)|(cases f;exact t)
theorem Bk.put(b:Bk h v q L)(hb:HB h)(hj:j<L.length){bs:List Nat}(hw:bs.length=32){f:Ab->R}(m:∀h',Bk h' v q (L.set j bs)->Av (fun i=>i=q) h h'->HB h'->Ok (f h') Q):Ok (Z8 32 v (.int .i64 (j:Int)) fun p=>stE 32 p (.agg (Bh bs)) h f) Q:=by
 have lt:=b.lt hb;have a:=A01 (n:=32) b.rows (j:=j) (by rw[bX];exact hj) (v:=Bh bs) (by rw[Be,hw]);have em:(L.map Bh).set j (Bh bs)=(L.set j bs).map Bh:=by rw[List.map_set]
 rw[em]at a;obtain⟨op,rfl⟩:=b.v;rw[Lv hj,bJ];have done:∀o:Ec,(∃t,o=.cells ((L.set j bs).map Bh).flatten t\/∃z,o=.vec ((L.set j bs).map Bh).flatten t z)->Ok (f (h.put q o)) Q:=fun o u=>by
  refine m _ ⟨⟨op,by rw[bK]⟩,?_,fun l a=>?_,by rw[bK];exact b.n⟩ ((Av.refl (S:=fun i=>i=q) h).Ar (.inl rfl) lt _) (hb.put lt _)
  ·obtain⟨t,e⟩:=u
   refine⟨t,?_⟩;rw[Af];rcases e with rfl|⟨z,rfl⟩
   ·exact .inl rfl
   ·exact .inr ⟨z,rfl⟩
  ·rcases cm a with y|rfl
   ·exact b.w l y
   ·exact hw
 obtain⟨t,o|⟨z,o⟩⟩:=b.o
 ·rw[An9 o rfl (by show Gk (Bh bs)=32;rw[Bc,Be,hw]) a]
  exact done _ ⟨t,.inl rfl⟩
 ·rw[Biu o rfl (by show Gk (Bh bs)=32;rw[Bc,Be,hw]) a]
  exact done _ ⟨t,.inr ⟨z,rfl⟩⟩
theorem A3n(s:Sm g)(h:Ab):∃h' v,Mp (List.replicate 32 (.int .u8 0)) 49 (.int .i64 g.B) (.int .i64 g.B) h=some (v,h')/\Bk h' v h.next (Tq g)/\Ext h h'/\h'.next=h.next+1:=by
 have b0:=s.b0;have b1:=s.b1;obtain⟨n,a⟩:=aY (show 0<=g.B by omega);have e:=Aqc (z:=List.replicate 32 (.int .u8 0)) (e:=49) (n:=n) (by omega) h;refine⟨_,_,by rw[a];exact e,⟨⟨false,?_⟩,⟨49,.inl ?_⟩,?_,?_⟩,Av.new _ _,rfl⟩
 ·unfold Tq;rw[bQ,a,aZ]
 ·rw[Ad,A4i]
  unfold Tq;rw[fI,a,aZ];rfl
 ·intro l f
  unfold Tq at f;rw[bP f,bQ]
 ·unfold Tq;rw[bQ,a,aZ];omega
end
section
section
variable (A:Bj disp)(hK:3000000<K)(hd:30<=d)(fq:F q)
include A hK hd fq
theorem Bgs:∀(f i:Nat) (h:Ab) (Y:Co),L.length-i<f->i<=L.length->Ej h0 h B X F Y->Cc Y L mt->Y.S.free=X.S.free->Rd' X Y->Bk h v q L->(L.length:Int)=Y.S.g.B ->
 Ok (Iw (Ae TT disp K d false) (Ae TT disp K d true) K f (.ptr B.c 0) v (I L.length) (I i) h) fun w h'=>w=.bool true/\∃Z,Ej h0 h' B X F Z/\Cc Z L mt/\Z.S.free=X.S.free/\Rd' X Z/\Bk h' v q L:=by
 intro f;induction f with
 | zero=>intro i h Y U;omega
 | succ f V=>
  intro i h Y U hi u J fr rd b lB;rw[Iw];simp only[I,Ac];by_cases a:i<L.length
  ·have:decide ((i:Int)<(L.length:Int))=true:=by simp;omega
   simp only[this,Aa,Aa6];rw[b.at a];have t:(Bh L[i]).length=32:=by rw[Be];exact b.w _ (av a)
   refine Ok.mk (by simp) t fun h2 x W n2=>?_
   have l2:=x.next
   have hb:=u.hb;have P:Cz h2 B Y (fun j=>F j\/j=h.next):=(u.C.ext x).less fun j hj=>by
    rcases hj with hj|rfl
    ·exact .inl hj
    ·exact .inr ⟨aE _,by omega⟩
   refine(A1k (K:=K) A (by omega) P J (d:=d) (by omega) (i:Int)).An ?_;rintro _ h3 ⟨bl,e,Z,rfl,aa,c3,j3,f3,T,w3⟩;have eb:bl=L[i]/\e=0:=by
    rcases w3 with⟨_,_,e0,hL⟩|⟨no,_⟩
    ·rw[aZ,aC a]at hL
     cases hL;exact⟨rfl,e0⟩
    ·omega
   obtain⟨rfl,rfl⟩:=eb;have D:=c3.k.at P.hb W (.inr rfl);have m:=c3.less (F:=F) fun j=>.inl
   have p:=(u.trans (u.C.toE x)).trans m;simp only[Aa];refine Ok.mk (by simp) t fun h4 E g4 n4=>?_
   have H:=E.at p.hb D;have M:=p.trans (p.C.toE E);rw[Bp g4 rfl (Ai t),Bp H rfl (Ai t)];have ae:Cg (.tuple []) false=false/\Cg (.tuple []) true=false:=⟨rfl,rfl⟩;rw[A73 (n:=32) Bth (by rw[<-Be];exact t) (by rw[<-Be];exact t)];simp only[I,aD,aA,Aa,Ac,Aa4,Abf];rw[Cj (by omega) (by have:=b.n.2;omega),show((i:Nat):Int)+1=((i+1:Nat):Int) by omega];have lq:=b.lt hb;refine V (i+1) h4 Z (by omega) (by omega) M j3 (f3.trans fr) (rd.trans T) (b.frame ?_) (by rw[T.g];exact lB);rw[E.get _ (by have:=m.k.next;omega) id,m.k.get _ (by omega) fun y=>y fq,x.get _ lq id]
  ·have:decide ((i:Int)<(L.length:Int))=false:=by simp;omega
   simp only[this,Aa,Aa3];exact .ret ⟨rfl,Y,u,J,fr,rd,b⟩
theorem Bin(C:Cz h B X F)(c:Cc X L mt)(b:Bk h v q L):Ok (Ae TT disp K (d+1) false 28 [.ptr B.c 0,v] h) fun w h'=>w=.bool true/\∃Z,Ej h h' B X F Z/\Cc Z L mt/\Z.S.free=X.S.free/\Rd' X Z/\Bk h' v q L:=by
 rw[Anw A (by omega)];simp only[Afs,Aa];rw[b.F3];have n:=b.n;have lb:(L.length:Int)=X.S.g.B:=by
  have:=c.lb;have:=c.len;have:=c.c.sm.b0;omega
 exact Bgs A hK hd fq K 0 h X (by omega) (by omega) (Ej.refl C) c rfl (Rd'.refl X) b lb
theorem Aus(C:Cz h B X F)(J:Jc X L mt)(b:Bk h v q L):Ok (Ae TT disp K (d+1) false 28 [.ptr B.c 0,v] h) fun w h'=>w=.bool true/\∃Z,Ej h h' B X F Z/\Jc Z L mt/\Rd' X Z/\Bk h' v q L:=by
 refine(Bin A hK hd fq C J.c b).mono ?_;rintro w h' ⟨rfl,Z,a,m,f,r,p⟩;exact⟨rfl,Z,a,⟨m,J.sq.es r.es,by rw[r.g,f];exact J.fr⟩,r,p⟩
end
end
theorem A7r(L:List (List Nat))(W:List Wr):∀n,(Afx L W n).length=L.length
 | 0=>rfl
 | n+1=>by unfold Afx;rw[bK,A7r L W n]
theorem Bai(hK:1000<K){w:EV}{p q5:Nat}{v2:EV}{W:List Wr}(Z:W.length<=4)(E:∀x∈W,Aru g x=true)(H:(L.length:Int)=g.B)(lw:0<W.length->p≠q5)
 (J:∀h,Bk h v5 q5 (Afx L W W.length)->Av (fun i=>i=q5) h0 h->HB h->Ok (Fk K v2 v5 h) Q):∀(f i:Nat) (h:Ab),W.length-i<f->i<=W.length->HB h->Av (fun i=>i=q5) h0 h->A0d h w p W->(0<W.length->p<h.next)->Bk h v5 q5 (Afx L W i) ->
 Ok (Fg K f v2 v5 w (I W.length) (I i) h) Q:=by
 intro f;induction f with
 | zero=>intro i h M;omega
 | succ f P=>
  intro i h M hi hb D t lq b;rw[Fg];simp only[I,Ac];by_cases a:i<W.length
  ·have:decide ((i:Int)<(W.length:Int))=true:=by simp;omega
   simp only[this,Aa,X5];rw[t.at a];have wf:=t.wf _ (av a);have wh:=E _ (av a);have wb:fB W i=W[i].block.toNat/\fY W i=W[i].bytes:=by unfold fB fY;rw[aC a];exact⟨rfl,rfl⟩
   generalize W[i]=x at wf wh wb⊢;have wl:=Wr.len wf;unfold Aru at wh;simp only[aR,aQ]at wh
   try simp only[Aa]
   rw[Brd];refine Ok.mk rfl wl fun S m e3 _=>?_
   rw[Al e3 rfl (v:=I x.block) rfl]
   try simp only[Aa]
   rw[Bp e3 rfl (show Oy x.cells 1 32=some (Bh x.bytes) by
    rw[Fw (by omega)];unfold Wr.cells;rw[List.drop_succ_cons,dC,bR (by rw[Be,wf.1];omega)])]
   obtain⟨j,hj⟩:=aY wh.1;have u:=m.hb hb;have b3:=b.frame (h':=S) (m.get _ (b.lt hb) id);have T:=A7r L W i;have U:=m.next
   rw[show I x.block=EV.int .i64 (j:Int) by rw[hj]];refine b3.put u (j:=j) (by rw[T];omega) wf.1 fun h4 b4 c4 C=>?_
   simp only[Ya,I,Ac];rw[Cj,show((i:Nat):Int)+1=((i+1:Nat):Int) by omega];have e4:(Afx L W i).set j x.bytes=Afx L W (i+1):=by
    show _=(Afx L W i).set (fB W i) (fY W i);rw[wb.1,wb.2,hj];rfl
   rw[e4]at b4;refine P (i+1) h4 (by omega) (by omega) C ((D.trans (Ext.to m)).trans c4) (t.frame fun y=>?_) (fun y=>by have:=lq y;have:=c4.next;omega) b4
   ·rw[c4.get _ (by have:=lq y;omega) fun z=>lw y z,m.get _ (lq y) id]
  ·have:decide ((i:Int)<(W.length:Int))=false:=by simp;omega
   have V:i=W.length:=by omega
   subst V;simp only[this,Aa];exact J h b D hb
theorem Ban(hK:3000<K){q5 p2:Nat}{n:Nat}(u:b+n<=L.length){x y:Int}(C:x=b)(D:y=n)(np:p2≠q5)(t:∀h,Av (fun i=>i=q5) h0 h->∀k:EV->R,Fm (.ptr p2 1) h k=k (I x)/\Fm (.ptr p2 2) h k=k (I y))
 (E:∀h,Bk h v5 q5 (Aoz L b n)->Av (fun i=>i=q5) h0 h->HB h->Q v5 h):∀(f i:Nat) (h:Ab),n-i<f->i<=n->HB h->Av (fun i=>i=q5) h0 h->Bk h v5 q5 (Aoz L b i) ->
 Ok (Fi K f (.ptr p2 0) v5 (I ((b+i:Nat):Int)) h) Q:=by
 intro f;induction f with
 | zero=>intro i h H;omega
 | succ f J=>
  intro i h H hi hb a m;rw[Fi];have S:=m.n;have T:=A3y L b i;simp only[Aa];rw[(t h a _).1];rw[(t h a _).2];simp only[I,Ac];rw[C,D,Cj (n:=(b:Int)+n) (by omega) (by omega)];by_cases M:i<n
  ·have hd:decide (((b+i:Nat):Int)<(b:Int)+n)=true:=by simp;omega
   simp only[hd,Aa,Xi];rw[Io,Ay (l:=Bh Dp) rfl];refine m.put hb (j:=b+i) (by omega) (bs:=Dp) rfl fun h2 b2 c2 p=>?_
   simp only[Xf,Ac];rw[Cj,show(((b+i:Nat):Int))+1=((b+(i+1):Nat):Int) by omega];exact J (i+1) h2 (by omega) (by omega) p (a.trans c2) b2
  ·have hd:decide (((b+i:Nat):Int)<(b:Int)+n)=false:=by simp;omega
   have P:i=n:=by omega
   subst P;simp only[hd,Aa,E7];exact .ret (E h m a hb)
def Ap1(o:H0)(L:List (List Nat)):List (List Nat):=if o.kind=1 then Afx L (wrs o.x o.bs) o.bs.length else if o.kind=2 then Aoz L o.x.toNat o.y.toNat else L
theorem Bu4(z:List EV)(h:Ab):Cd z 49 32 0 [] h=some (.slice h.next 0 0 0 false,h.new (.cells [] 49)):=rfl
theorem Boq(hK:3000000<K)(O:o.At h)(hb:HB h)(hl:o.bs.length<=1048576)(lq:0<o.bs.length->o.bq<h.next)(b:Bk h v q L)(gB:(L.length:Int)=g.B)(c1:o.kind=1->Am1 g (wrs o.x o.bs)=true)(c2:o.kind=2->We g o.x o.y=true):
 Ok (C9 K (.agg o.cells) v h) fun w h'=>∃q',Bk h' w q' (Ap1 o L)/\Ext h h'/\HB h'/\h.next<=q':=by
 have ol:=H0.len O.ev;simp only[C9,Aa];obtain⟨W,e_,x1,g1,n1⟩:=nW h (.cells o.cells 34);rw[e_,Bu4,As];have J:=x1.hb hb;have M:Ext W (W.new (.cells [] 49)):=Av.new _ _;generalize ax:W.new (.cells [] 49)=h2 at M;have ad:=M.hb J;have n:=b.n;have ae:=x1.trans M;have b2:=b.frame (h':=h2) (ae.get _ (b.lt hb) id);obtain⟨ce,cl⟩:=b2.N9;have lv:lenOf v=some L.length:=by obtain⟨op,rfl⟩:=b.v;rfl
 refine(Ym (b:=W.next) (e:=49) (sz:=32) (n:=L.length) lv (by omega) ce cl 0).An ?_;rintro w P ⟨q',r,x3,ag⟩;have a:=x3.hb ad;have ay:=ag n.1;have t2:=M.next;have t3:=x3.next
 have b3:Bk P w q' L:=⟨⟨true,r.slice n.1⟩,⟨49,.inr ⟨32,r.block n.1⟩⟩,b.w,n⟩;have S:=M.trans x3;have T:=x1.trans S;have t:=Ext.at S J g1;have np:h.next≠q':=by omega
 have fin:∀(L':List (List Nat)) (h4 f:Ab),Ext P h4->Av (fun i=>i=q') h4 f->Bk f w q' L'->L'=Ap1 o L->HB f->∃q',Bk f w q' (Ap1 o L)/\Ext h f/\HB f/\h.next<=q':=fun L' h4 f x c bk e p=>by
  subst e;exact⟨q',bk,(T.trans x).then c fun j hj y=>by have hj:j=q':=hj;omega,p,by omega⟩
 rw[(Aaa t _).1];simp only[I,Ac];by_cases C:o.kind=1
 ·obtain⟨fw,_,f4⟩:=Beb.1 (c1 C)
  simp only[C,aB,Aa];rw[Bp t rfl (Ai ol)];simp only[F9,Aa];obtain⟨h4,e_,x4,g4,n4⟩:=nW P (.cells o.cells 34);rw[e_];have ai:=x4.hb a;rw[(Aaa g4 _).2.2.2];have U:=T.trans x4;have R1:=O.row.frame (h':=h4) fun y=>U.get _ (lq y) id
  rw[R1.F3];refine Ok.An (A2j (K:=K) (by omega) hl K 0 h4 .Ao 0 (by omega) (by omega) ai (Av.refl h4) g4 (by omega) (fun y=>by have:=lq y;have:=U.next;omega) R1 (Cs.nil _ _ _ _) (fun y=>by omega)) ?_;rintro u f ⟨qw,Wt,x5,p,lw⟩;have D:=x4.trans x5;have b5:=b3.frame (h':=f) (D.get _ (b3.lt a) id);have g5:=Ext.at D a t;rw[Wt.F3];refine Bai (K:=K) (by omega) f4 fw gB (h0:=f) (v5:=w) (q5:=q') (fun y=>?_) (fun h6 b6 Z E=>?_) K 0 f (by omega) (by omega) p (Av.refl _) Wt (fun y=>?_) b5
  ·rw[Ack]at y
   have:=lw y;have:=b3.lt a;omega
  ·simp only[Fk,Aa]
   rw[(Aaa (Z.at p g5 np) _).1];simp only[I,Ac,C];rw[show decide ((1:Int)=2)=false from rfl];simp only[Aa,E7];exact .ret (fin _ _ _ D Z b6 (by unfold Ap1;rw[aG C,Ack]) E)
  ·rw[Ack]at y
   exact(lw y).2
 ·simp only[C,aA,Aa,Fk]
  rw[(Aaa t _).1];simp only[I,Ac];by_cases V:o.kind=2
  ·have ht:=c2 V
   unfold We at ht;simp only[aR,aQ]at ht;obtain⟨b,H⟩:=aY ht.1.1;obtain⟨m,hm⟩:=aY (show 0<=o.y by omega);simp only[V,aB,Aa];rw[(Aaa t _).2.1];have st:=Ban (K:=K) (by omega) (h0:=P) (v5:=w) (q5:=q') (p2:=h.next) (L:=L) (b:=b) (n:=m) (x:=o.x) (y:=o.y) (by omega) H hm np (Q:=fun w h'=>∃q',Bk h' w q' (Ap1 o L)/\Ext h h'/\HB h'/\h.next<=q') (fun h' c k=>⟨(Aaa (c.at a t np) k).2.1,(Aaa (c.at a t np) k).2.2.1⟩) (fun h6 b6 Z E=>fin _ _ _ (Av.refl _) Z b6 (by unfold Ap1;rw[aF C,aG V,H,hm,aZ,aZ]) E) K 0 P (by omega) (by omega) a (Av.refl _) b3;rw[dL]at st;rw[H];exact st
  ·simp only[V,aA,Aa,E7]
   exact .ret (fin _ _ _ (Av.refl _) (Av.refl _) b3 (by unfold Ap1;rw[aF C,aF V]) a)
theorem Did.apply(d:Did o X L Y L' e)(h:e=0):L'=Ap1 o L/\(o.kind=1->Am1 X.S.g (wrs o.x o.bs)=true)/\(o.kind=2->We X.S.g o.x o.y=true):=by
 unfold Ap1;by_cases f:o.kind=1
 ·rcases d.w f with⟨_,y,_⟩|⟨a,_,c,_⟩
  ·omega
  ·rw[aG f];exact⟨c,fun _=>a,fun y=>by omega⟩
 by_cases m:o.kind=2
 ·rcases d.t m with⟨_,y,_⟩|⟨a,_,c⟩
  ·omega
  ·rw[aF f,aG m];exact⟨c,fun y=>absurd y f,fun _=>a⟩
 ·rw[aF f,aF m];exact⟨d.r f m,fun y=>absurd y f,fun y=>absurd y m⟩
theorem Did.Gx(d:Did o X L Y L' e)(h:¬e=0):L'=L:=by
 by_cases a:o.kind=1
 ·rcases d.w a with⟨_,_,y⟩|⟨_,y,_⟩
  ·exact y
  ·exact absurd y h
 by_cases f:o.kind=2
 ·rcases d.t f with⟨_,_,y⟩|⟨_,y,_⟩
  ·exact y
  ·exact absurd y h
 ·exact d.r a f
section
structure Lb(F:Nat->Prop)(g:Gm)(h0 h:Ab)(B:Cb)(X:Co)(L:List (List Nat))(mt:Int->Int)(i:Nat)(v:EV)(q:Nat):Prop where
 C:Cz h B X (fun j=>F j\/j=q)
 w:LwI g X L mt i
 b:Bk h v q L
 k:Kf F h0 h
 n:h0.next<=q
theorem Lb.ext(l:Lb F g h0 h B X L mt i v q)(x:Ext h h'):Lb F g h0 h' B X L mt i v q:=
 ⟨(l.C.toE x).C,l.w,l.b.frame (x.get _ (l.b.lt l.C.hb) id),l.k.trans (Ext.kf x),l.n⟩
section
variable (A:Bj disp)(hK:3000000<K)(hd:31<=d){N:Nat}(lF:∀i,i<N->F i)(hi:i<=60)
include A hK hd lF hi
theorem A3g(l:Lb F g h0 h B X L mt i v q){p:Nat}(a:h.get p=some (.cells o.cells 34))(oa:o.At h)(ob:0<o.bs.length->o.bq<N)(f:o.bs.length<=1048576)(m:Rng o.x)(t:¬o.kind=9)(D:Cz h B X (fun j=>(F j\/j=q)\/j=p)):
 Ok (Ae TT disp K d false 13 [.agg o.cells,.ptr B.c 0] h) fun u h'=>∃e Y L' mt',u=I e/\(Cz h' B Y (fun j=>F j\/j=q)/\LwI g Y L' mt' (i+1)/\Bk h' v q L/\Kf F h0 h')/\h'.get p=some (.cells o.cells 34)/\o.At h'/\Did o X L Y L' e:=by
 have gen:=l.w.gen;have nx:=l.w.nx;refine(Bg4 (K:=K) A hK D l.w.j (by omega) (by omega) oa f (fun y=>.inl (.inl (lF _ (ob y)))) m t hd).mono ?_;rintro _ h' ⟨e,Y,L',mt',rfl,c,j,op,E⟩;have hb:=l.C.hb;have lq:=l.b.lt hb;refine⟨e,Y,L',mt',rfl,⟨(c.less fun j=>.inl).C,l.w.step j op,l.b.frame (c.k.get _ lq fun y=>y (.inl (.inr rfl))),l.k.trans (c.less (F:=F) fun j hj=>.inl (.inl hj)).k⟩,c.k.at hb a (.inr rfl),⟨oa.row.frame fun y=>?_,oa.ev,oa.pl⟩,E⟩;have H:=l.C.M.lt _ (.inl (.inl (lF _ (ob y))));exact c.k.get _ H fun z=>z (.inl (.inl (lF _ (ob y))))
omit A hd hi in
theorem Aqk(z:Cz h' B Y (fun j=>F j\/j=q)/\LwI g Y L' mt' k/\Bk h' v q L/\Kf F h0 h')(p:X.S.g=g)(len:L.length=L'.length)(oa:o.At h')(ob:0<o.bs.length->o.bq<N)(t:o.bs.length<=1048576)(D:Did o X L Y L' e)(he:e=0):
 Ok (C9 K (.agg o.cells) v h') fun w a=>∃q',Lb F g h0 a B Y L' mt' k w q':=by
 obtain⟨C,w,b,kf⟩:=z;obtain⟨E,c1,c2⟩:=D.apply he;rw[p]at c1 c2;have lB:(L.length:Int)=g.B:=by
  have H:=w.j.c.lb;have a2:=w.j.c.len;have b0:=w.j.c.c.sm.b0;rw[w.gg]at H b0;omega
 refine(Boq (K:=K) hK oa C.hb t (fun y=>C.M.lt _ (.inl (.inl (lF _ (ob y))))) b lB c1 c2).mono ?_;rintro u a ⟨q',f,x,m,lq⟩;rw[<-E]at f;have lt:=f.lt m;refine⟨q',(C.ext x).less fun j hj=>?_,w,f,kf.trans (Ext.kf x),bN kf.next lq⟩;rcases hj with hj|rfl
 ·exact .inl (.inl hj)
 ·exact .inr ⟨lq,lt⟩
omit A hK hd lF hi in
theorem Au6(z:Cz h' B Y (fun j=>F j\/j=q)/\LwI g Y L' mt' k/\Bk h' v q L/\Kf F h0 h')(a:Did o X L Y L' e)(he:¬e=0)(f:h0.next<=q):Lb F g h0 h' B Y L' mt' k v q:=by
 have:=a.Gx he;subst this;exact⟨z.1,z.2.1,z.2.2.1,z.2.2.2,f⟩
end
theorem LwI.len(a:LwI g X L mt i)(b:LwI g Y L' mt' k):L.length=L'.length:=by
 have f:=a.j.c.lb;have a2:=a.j.c.len;have b1:=b.j.c.lb;have b2:=b.j.c.len;rw[a.gg]at f;rw[b.gg]at b1;omega
end
section
section
variable (A:Bj disp)(hK:3000000<K)(hd:31<=d){N:Nat}{many:Int}(lF:∀i,i<N->F i)(l0:N<=h0.next)(hb0:HB h0)(f4:F a4)(ga4:h0.get a4=some (.cells (gL g) 23))(R0:So h0 N v1 b O)(hL:O.length<=60)
include A hK hd
include lF l0 hb0 f4 ga4 R0 hL
end
end
section
section
variable (A:Bj disp)(hK:3000000<K)(hd:31<=d){N:Nat}{z:Int}(lF:∀i,i<N->F i)(l0:N<=h0.next)(hb0:HB h0)(R0:So h0 N v1 b O)(hL:O.length<=60)
include A hK hd
end
end
section
section
variable (A:Bj disp)(hK:3000000<K)(hd:31<=d){N:Nat}{z:Int}(lF:∀i,i<N->F i)(l0:N<=h0.next)(hb0:HB h0)(R0:So h0 N v1 b O)(hL:O.length<=60)
include A hK hd lF l0 R0 hL
end
end
section
theorem Bcj(a b:Bool)(k:EV->R):Kl Alb (bin TT .neq 4) (.bool a) (.bool b) k=k (.bool (!decide (a=b))):=by
 cases a<;>cases b<;>kernel_rfl
section
variable (A:Bj disp)(hK:3000000<K)(hd:31<=d){N a2:Nat}(lF:∀i,i<N->F i)(l0:N<=h0.next)(hb0:HB h0)(f2:F a2)(ga2:h0.get a2=some (.cells (gL g) 23))(R0:So h0 N v1 b O)(hL:O.length<=60)
include A hK hd
include lF l0 hb0 f2 ga2 R0 hL
end
end
section
section
variable (A:Bj disp)(hK:3000000<K)(hd:31<=d)
include A hK hd
end
end
section
section
variable (A:Bj disp)(hK:3000000<K)(hd:31<=d)
include A hK hd
end
end
section
section
variable (A:Bj disp)(hK:3000000<K)(hd:31<=d){N:Nat}(lF:∀i,i<N->F i)(l0:N<=h0.next)(hb0:HB h0)(f3:F a3)(ga3:h0.get a3=some (.cells (gL g) 23))(R0:So h0 N v1 b O)(hL:O.length<=60)
include A hK hd lF l0 hb0 f3 ga3 R0 hL
end
end
section
section
variable (A:Bj disp)(hK:10000<K){hs:Ab}{l0 d0:Nat}{tm:Ax}{a8 a9:Nat}(hbs:HB hs)
include A hK
end
end
section
variable{N:Nat}{i':Nat}{ds:List Nat}
end
section
variable (A:Bj disp)(hK:3000000<K){N:Nat}
include A hK
variable(hd:31<=d)(R0:So h0 N v1 b O)(hL:O.length<=60)
include hd R0 hL
end
end Go.Ev
