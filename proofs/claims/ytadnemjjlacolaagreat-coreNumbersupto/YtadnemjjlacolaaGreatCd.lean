import Derived.Test.YtadnemjjlacolaaGreatCc
import Derived.Test.YtadnemjjlacolaaGreatVb
set_option linter.all false
namespace Go.Ev
open Go.Proofs
set_option maxRecDepth 100000
variable {h h':Aa}{B:Cb}{X Y:Co}{F T:Nat->Prop}{v:EV}{K b:Nat}{disp:Nat->Option FT}
section
def Bpu(x:R)(h:Aa)(B:Cb)(X:Co)(F:Nat->Prop):Prop:=Ok x fun v h'=>∃(e:Int) (Y:Co),v=I e/\Ey h h' B X F Y
theorem Bpu.ret{e:Int}(c:Ey h h' B X F Y):Bpu (some (.int .i64 e,h')) h B X F:=Ok.ret ⟨e,Y,rfl,c⟩
theorem Bkx(S:Mi)(z:Int):Mk S (S.Aeo z):=⟨rfl,Dk.refl _⟩
section
variable (A:Bv disp)(hK:10000<K)(C:Dw h B X F)
include A hK C
end
end
section
section
variable {h1 h2 h3:Aa}
theorem Ey.Bkj(x:Ext h h1)(c:Ey h1 h2 B X (Bf F h h1) Y)(t:Ar T h2 h3)(e:∀i,T i->h.next<=i/\i<h1.next)(a:HB h3):Ey h h3 B X F Y:=
 ⟨(c.C.Ahr t (fun i d _=>.inr (e i d)) a).less fun _=>.inl,(x.Ar5 c.k).then t fun i d f=>by have:=e i d;omega,c.ck⟩
end
section
variable (A:Bv disp)(hK:10000<K)
include A hK
end
end
section
theorem Dw.same(C:Dw h B X F)(sm:Al4 h h'):Dw h' B X F:=
 ⟨C.M.same sm,by rw[sm.get];exact C.core,by rw[sm.get];exact C.ar,C.map.frame (sm.get _) (sm.get _) (sm.get _),C.wf,C.out,sm.hb C.hb⟩
theorem Bbt(a b c d:Int){bl:List Nat}(e:bl.length=32):Zr (Dh [(0,1),(1,1),(2,1),(3,1),(4,1),(5,1),(6,32)]) [(0,I a),(1,I b),(2,I c),(3,I d),(6,.agg (Bj bl))] En.zero.cells=some (⟨a,b,c,d,0,0,bl⟩:En).cells:=by
 have hs:=Ai9 [I a,I b,I c,I d,I 0,I 0] (Bj Dd) (Bj bl) (by rw[Bg,Bg,e,Zz]);rw[<-Ue]at hs;show Ba (Nat.beq (Fz (Bj bl)) 32) (oB (fun z=>some z) (L7 ([I a,I b,I c,I d,I 0,I 0]++Bj Dd) 6 (Bj bl))) none=_;rw[Bc,Bg,e,cK,Aj];rw[show(6:Nat) = [I a,I b,I c,I d,I 0,I 0].length from rfl,hs];rfl
section
variable (A:Bv disp)(hK:10000<K)(C:Dw h B X F)
include C
include A hK
end
end
section
theorem Ey.less{G:Nat->Prop}(c:Ey h h' B X G Y)(s:∀i,F i->G i):Ey h h' B X F Y:=⟨c.C.less s,c.k.less s,c.ck⟩
section
variable (A:Bv disp)(hK:10000<K)(C:Dw h B X F)
include A hK
include C
theorem Bgq {d:Int}:Rng (X.J9 (X.S.g.D*X.S.g.Z).toNat):=by
 have b:=X.A3p (X.S.g.D*X.S.g.Z).toNat;have:=C.sm.Ah7;exact⟨by omega,by omega⟩
end
end
section
theorem Cv.Bje{m:Nat}{S:Mi}(M:Cv h m S F)(c:Ar T h h')(t:∀i,T i->i<h.next->F i):Cv h' m S (Bf F h h'):=by
 refine⟨(M.s.frame c.next fun i a=>c.get i a.1 fun y=>a.2 (t i y a.1)).mono (fun i a=>⟨aK a.1 c.next,fun y=>?_⟩) fun i a=>a.1,Bf.lt M.lt c.next,M.wf⟩;rcases y with y|y
 ·exact a.2 y
 ·have:=a.1;omega
theorem Dw.Bje(C:Dw h B X F)(c:Ar T h h')(t:∀i,T i->i<h.next->F i)(d:HB h'):Dw h' B X (Bf F h h'):=by
 have e:=C.Ahr c t d;refine⟨(C.M.Bje c fun i a f=>.inl (t i a f)).less fun i a=>?_,e.core,e.ar,e.map,C.wf,fun i a=>?_,d⟩
 ·rcases a with(a|a)|a
  ·exact .inl (.inl a)
  ·exact .inr a
  ·exact .inl (.inr a)
 ·rcases a with a|a
  ·exact C.out i a
  ·intro y
   have g:=C.hb _ _ C.core;have j:=C.hb _ _ C.ar;have k:=C.hb _ _ C.map.map;have m:=C.hb _ _ C.map.row;have n:=C.hb _ _ C.map.live;rcases y with y|y|y|y|y<;>omega
structure Wr where
 block:Int
 bytes:List Nat
def Wr.Wf(w:Wr):Prop:=w.bytes.length=32/\∀b∈w.bytes,b<256
def Wr.cells(w:Wr):List EV:=I w.block::Bj w.bytes
theorem Wr.len {w:Wr}(f:w.Wf):w.cells.length=33:=by unfold Wr.cells;rw[bF,Bg,f.1]
structure Aum(h:Aa)(v:EV)(b:Nat)(L:List Wr):Prop where
 row:(v=.Ao/\L = [])\/∃off r op,v=.slice b off L.length r op/\∀j (hj:j<L.length) (k:EV->R),Ox 33 (.ptr b (off+j*33)) h k=k (.agg L[j].cells)
 wf:∀w∈L,w.Wf
theorem Aum.frame{L:List Wr}(r:Aum h v b L)(e:0<L.length->h'.get b=h.get b):Aum h' v b L:=by
 refine⟨?_,r.wf⟩;rcases r.row with y|⟨off,a,op,rfl,y⟩
 ·exact .inl y
 ·refine .inr ⟨off,a,op,rfl,fun j hj k=>?_⟩
  have:=y j hj k;show oB _ (Aod (h'.get b) _ 33)=_;rw[e (by omega)];exact this
theorem Aum.H5{L:List Wr}(r:Aum h v b L)(k:EV->R):Ev.H5 v k=k (I L.length):=by
 rcases r.row with⟨rfl,rfl⟩|⟨off,a,op,rfl,_⟩<;>rfl
theorem Aum.at{L:List Wr}(r:Aum h v b L){j:Nat}(hj:j<L.length)(k:EV->R):Aac 33 v (.int .i64 (j:Int)) (fun p=>Ox 33 p h k)=k (.agg L[j].cells):=by
 rcases r.row with⟨rfl,rfl⟩|⟨off,a,op,rfl,y⟩
 ·exact absurd hj (bm _)
 ·rw[Nw hj];exact y j hj k
theorem Bo4: [EV.int .i64 0]++List.replicate 32 (EV.int .u8 0)=(⟨0,Dd⟩:Wr).cells:=by kernel_rfl
theorem Bch(C:Dw h B X F)(j:Int):Ok (Ub K (.ptr B.c 0) (I j) h) fun v h'=>v=.bool (decide (0<=j)&&decide (j<X.S.g.B))/\Ext h h':=by
 simp only[Ub,I,Ac,Ab];have a:Fa (.tuple []) false=false/\Fa (.tuple []) true=false:=⟨rfl,rfl⟩;by_cases h0:0<=j
 ·simp only[h0,aB,Ab,Ac]
  rw[C.ldM];refine Ok.Ap (O0 (K:=K) C.M C.hb) ?_;rintro _ h2 ⟨rfl,d⟩;unfold gV;rw[Art (v:=I X.S.g.B) rfl];simp only[I,Ac,Ab,Yn];exact .ret ⟨by simp,d⟩
 ·simp only[h0,aA,Ab,Ac,Yn]
  exact .ret ⟨rfl,Ar.refl _⟩
section
variable{L:List Wr}(fb:0<L.length->F b)(hL:L.length<=2000000)
include fb hL
end
structure Bpv(h:Aa)(s:EV)(q:Nat)(xs:List Me):Prop where
 row:Cj h s q 47 6 xs.length (xs.map Me.cells).flatten
 rng:∀x∈xs,Rng x.Ah/\Rng x.Ay
section
variable (A:Bv disp)(hK:10000<K){L:List Wr}(fb:0<L.length->F b)(hL:L.length<=4)
include A hK fb hL
end
end
variable {L:List Wr}
section
theorem Bm1(seq block many:Int):Zr (Dh [(0,1),(1,1),(2,1),(3,1),(4,1),(5,1),(6,32)]) [(0,I 2),(1,I seq),(2,I 1),(3,I block),(4,I many)] En.zero.cells=some (⟨2,seq,1,block,many,0,Dd⟩:En).cells:=rfl
theorem Bml:∀b∈Dd,b<256:=fun b hb=>by rw[bL hb];decide
section
variable (A:Bv disp)(hK:10000<K)(C:Dw h B X F)
include A hK
include C
end
end
theorem A50(hK:1000<K)(hb:HB h)(m:Nat):Ok (Anf K (.ptr m 0) h) fun v h'=>v=.ptr h.next 0/\h'.get h.next=some (.cells (Z1 m (fun _=>-1) fun _=>-1) 152)/\Ext h h'/\HB h':=by
 obtain⟨f,rfl⟩:∃k,K=k+4:=⟨K-4,by omega⟩;simp only[Anf,dr];rw[Ax (l:=Z1 m (fun _=>0) fun _=>0) rfl];simp only[Ab];have g:Ext h (h.new (.cells (Z1 m (fun _=>0) fun _=>0) 152)):=Ar.new _ _;have j:(h.new (.cells (Z1 m (fun _=>0) fun _=>0) 152)).get h.next=some (.cells (Z1 m (fun _=>0) fun _=>0) 152):=Ad _ _
 have l1:h.next<(h.new (.cells (Z1 m (fun _=>0) fun _=>0) 152)).next:=aL _
 generalize h.new (.cells (Z1 m (fun _=>0) fun _=>0) 152)=h1 at g j l1⊢;have st:∀(i:Nat) (h2:Aa) (c o:Nat->Int) (n:Nat),i<3->h2.get h.next=some (.cells (Z1 m c o) 152)->Ext h h2->h.next<h2.next->(∀h3,h3.get h.next=some (.cells (Z1 m (Lo c i (-1)) (Lo o i (-1))) 152)->Ext h h3->h.next<h3.next->Ok (Rq (f+4) n (.ptr h.next 0) (I (i+1:Nat)) h3) fun v h'=>v=.ptr h.next 0/\h'.get h.next=some (.cells (Z1 m (fun _=>-1) fun _=>-1) 152)/\Ext h h'/\HB h')->Ok (Rq (f+4) (n+1) (.ptr h.next 0) (I i) h2) fun v h'=>v=.ptr h.next 0/\h'.get h.next=some (.cells (Z1 m (fun _=>-1) fun _=>-1) 152)/\Ext h h'/\HB h':=by
  intro i h2 c o n p d e a t;rw[Rq];simp only[I,Ac];have:decide ((i:Int)<3)=true:=by simp;omega
  simp only[this,Ab,Avh];rw[Ax (l:=[I (-1),I (-1)]) rfl]
  try simp only[Ab]
  rw[Ac7 p];refine Ok.st _ d rfl rfl (A88 p (-1) (-1)) ?_;simp only[Av8,Ac];rw[Cq,show((i:Nat):Int)+1=((i+1:Nat):Int) by omega];exact t _ (Ae _ _ _) (e.Aq (.inr (aE _)) a _) a
 refine st 0 h1 _ _ _ (by omega) j g l1 fun h2 d e a=>st 1 h2 _ _ _ (by omega) d e a fun h3 u x y=>st 2 h3 _ _ _ (by omega) u x y fun h4 D q E=>?_
 rw[Rq];simp only[I,Ac];simp only[show decide (((2+1:Nat):Int)<3)=false from rfl,Ab,Avy];exact .ret ⟨rfl,D,q,q.hb hb⟩
theorem A48(z:List EV):∀n,rep z n=(List.replicate n z).flatten
 | 0=>rfl
 | n+1=>by rw[eB,br,<-A48 z n];rfl
theorem Bmk(n:Nat):((List.replicate n (Me.nil 0)).map Me.cells).flatten=rep (List.replicate 6 (.int .i64 0)) n:=by
 rw[A48,fU];rfl
theorem A03(z:Int):∀n,Jt (List.replicate n (Me.nil 0)) z=0
 | 0=>rfl
 | n+1=>by
  rw[eB,O6,A03 z n];unfold Ut;rw[aF (fun y=>by cases y.1)];rfl
theorem Bgu(n m:Nat):((List.range n).map fun(z:Nat)=>I (Jt (List.replicate m (Me.nil 0)) z))=rep [.int .i64 0] n:=by
 rw[Bn3];have:(fun(z:Nat)=>I (Jt (List.replicate m (Me.nil 0)) z))=fun _=>EV.int .i64 0:=by funext z;rw[A03]
 rw[this,Avd]
theorem A33 {g:Gm}(O:rtB g=true)(hb:HB h):Ok (Amz K (gV g) h) fun v h'=>∃b ml ll,v=.tuple [.ptr b 0,I 0]/\Rl h' b ml ll g (List.replicate g.B.toNat (Me.nil 0))/\Ext h h'/\HB h'/\h.next<=b/\h.next<=ml/\h.next<=ll:=by
 have s:=Oj O;have:=s.b0;have:=s.b1;have:=s.d0;have:=s.d1;have:=s.z0;have:=s.z1;obtain⟨m0,m1⟩:=Qi (a:=g.D) (b:=g.Z) (A:=8) (B:=64) (by omega) (by omega) (by omega) (by omega);simp only[Amz,gV,Ab];obtain⟨h1,G,k,Q,n1⟩:=nW h (.cells (gL g) 23);rw[G];have m:=k.hb hb;rw[Cw Q rfl,Ak (n:=6) rfl]
 try simp only[Ab]
 rw[show EV.agg (gL g)=gV g from rfl];refine(Za (K:=K) g h1).Ap ?_;rintro _ h2 ⟨rfl,i⟩;have d:=i.hb m;have u:=i.at m Q;have H:=d _ _ u;simp only[O,Ab,Ave];rw[Jb H,Cw u rfl,Ak (n:=6) rfl];simp only[Ab,Au];rw[Jb H,Al u rfl (v:=I g.B) rfl];simp only[Ab,Au];have U:I g.B=I (g.B.toNat:Int):=by rw[fO (by omega)]
 rw[U,Atm (by omega),As];have j:Ext h2 (h2.new (.cells (rep (List.replicate 6 (.int .i64 0)) g.B.toNat) 47)):=Ar.new _ _;have S:(h2.new (.cells (rep (List.replicate 6 (.int .i64 0)) g.B.toNat) 47)).get h2.next=some (.cells (rep (List.replicate 6 (.int .i64 0)) g.B.toNat) 47):=Ad _ _
 have n3:(h2.new (.cells (rep (List.replicate 6 (.int .i64 0)) g.B.toNat) 47)).next=h2.next+1:=rfl
 have e3:([EV.int .i64 0,.int .i64 0,.int .i64 0,.int .i64 0,.int .i64 0,.int .i64 0]:List EV)=List.replicate 6 (.int .i64 0):=rfl;rw[e3];generalize h2.new (.cells (rep (List.replicate 6 (.int .i64 0)) g.B.toNat) 47)=h3 at j S n3⊢;have e:=j.hb d;have o:=j.at d u;have l3:=e _ _ o;rw[Jb (show h.next<h2.next from H),Cw o rfl,Ak (n:=6) rfl];simp only[Ab,Au];rw[show EV.agg (gL g)=gV g from rfl];refine Ok.Bqh (P:=fun v h'=>v=I (g.D*g.Z)/\Ext (Ke 16 ⟨0,[(Nat.shiftLeft 1 3,h2.next)],[(Nat.shiftLeft 1 4,h.next),(Nat.shiftLeft 1 2,h.next),(Nat.shiftLeft 1 0,h.next)],[],[]⟩ h3) h') (by kernel_rfl) ?_ (fun _ _ p=>p.2) ?_
 ·rw[Oy s]
  exact .ret ⟨rfl,Ar.new _ _⟩
 ·rintro _ V h4 ⟨rfl,W⟩ eg en q
  have t:=q.hb e;have J:=q.at e S;have hN:I (g.D*g.Z)=I ((g.D*g.Z).toNat:Int):=by rw[fO (by omega)]
  try simp only[Ab,Au]
  rw[hN,Atm (by omega),As];obtain⟨M,G,y,g5,n5⟩:=nW h4 (.cells (rep [.int .i64 0] (g.D*g.Z).toNat) 3);rw[G];have f:=y.hb t;rw[Ax (l:=gL g++[.slice h2.next 0 g.B.toNat g.B.toNat false,.slice h4.next 0 (g.D*g.Z).toNat (g.D*g.Z).toNat false]) rfl];simp only[Ab,Au];have E:Ext M (M.new (.cells (gL g++[.slice h2.next 0 g.B.toNat g.B.toNat false,.slice h4.next 0 (g.D*g.Z).toNat (g.D*g.Z).toNat false]) 115)):=Ar.new _ _;refine .ret ⟨M.next,h2.next,h4.next,rfl,⟨Ad _ _,by rw[Bmk];exact E.at f (y.at t J),by rw[Bgu];exact E.at f g5,by rw[bV],fun x hx=>by rw[bL hx];unfold meR;rw[aH (.inl rfl)];exact aP rfl⟩,((((k.trans i).trans j).trans q).trans y).trans E,E.hb f,?_,?_,?_⟩
  ·have:=k.next;have:=i.next;have:=j.next;have:=q.next;have:=y.next;omega
  ·have:=k.next;have:=i.next;omega
  ·have:=k.next;have:=i.next;have:=j.next;have:=q.next;omega
end Go.Ev
