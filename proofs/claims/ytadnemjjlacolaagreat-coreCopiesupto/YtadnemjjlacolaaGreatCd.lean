import Derived.Test.YtadnemjjlacolaaGreatCc
import Derived.Test.YtadnemjjlacolaaGreatVb
set_option linter.all false
namespace Go.Ev
open Go.Proofs
set_option maxRecDepth 100000
variable {h h':Ab}{B:Cb}{X Y:Co}{F T:Nat->Prop}{v:EV}{K b:Nat}{disp:Nat->Option FT}
section
def Bv6(x:R)(h:Ab)(B:Cb)(X:Co)(F:Nat->Prop):Prop:=Ok x fun v h'=>∃(e:Int) (Y:Co),v=I e/\Ej h h' B X F Y
theorem Bv6.ret{e:Int}(c:Ej h h' B X F Y):Bv6 (some (.int .i64 e,h')) h B X F:=Ok.ret ⟨e,Y,rfl,c⟩
theorem Brs(S:Mi)(z:Int):Mk S (S.Ala z):=⟨rfl,Dk.refl _⟩
section
variable (A:Bj disp)(hK:10000<K)(C:Cz h B X F)
include A hK C
end
end
section
section
variable {h1 h2 h3:Ab}
theorem Ej.Bp9(x:Ext h h1)(c:Ej h1 h2 B X (Bg F h h1) Y)(t:Av T h2 h3)(e:∀i,T i->h.next<=i/\i<h1.next)(a:HB h3):Ej h h3 B X F Y:=
 ⟨(c.C.Ag7 t (fun i d _=>.inr (e i d)) a).less fun _=>.inl,(x.Axz c.k).then t fun i d f=>by have:=e i d;omega,c.ck⟩
end
section
variable (A:Bj disp)(hK:10000<K)
include A hK
end
end
section
theorem Cz.same(C:Cz h B X F)(sm:Asm h h'):Cz h' B X F:=
 ⟨C.M.same sm,by rw[sm.get];exact C.core,by rw[sm.get];exact C.ar,C.map.frame (sm.get _) (sm.get _) (sm.get _),C.wf,C.out,sm.hb C.hb⟩
theorem Bia(a b c d:Int){bl:List Nat}(e:bl.length=32):Afp (Ed [(0,1),(1,1),(2,1),(3,1),(4,1),(5,1),(6,32)]) [(0,I a),(1,I b),(2,I c),(3,I d),(6,.agg (Bh bl))] En.zero.cells=some (⟨a,b,c,d,0,0,bl⟩:En).cells:=by
 have hs:=Ao1 [I a,I b,I c,I d,I 0,I 0] (Bh Dp) (Bh bl) (by rw[Be,Be,e,Afo]);rw[<-Aab]at hs;show Bf (Nat.beq (Gk (Bh bl)) 32) (oB (fun z=>some z) (O0 ([I a,I b,I c,I d,I 0,I 0]++Bh Dp) 6 (Bh bl))) none=_;rw[Bc,Be,e,cO,Ak];rw[show(6:Nat) = [I a,I b,I c,I d,I 0,I 0].length from rfl,hs];rfl
section
variable (A:Bj disp)(hK:10000<K)(C:Cz h B X F)
include C
include A hK
end
end
section
theorem Ej.less{G:Nat->Prop}(c:Ej h h' B X G Y)(s:∀i,F i->G i):Ej h h' B X F Y:=⟨c.C.less s,c.k.less s,c.ck⟩
section
variable (A:Bj disp)(hK:10000<K)(C:Cz h B X F)
include A hK
include C
theorem Bm3 {d:Int}:Rng (X.K5 (X.S.g.D*X.S.g.Z).toNat):=by
 have b:=X.A98 (X.S.g.D*X.S.g.Z).toNat;have:=C.sm.Ag0;exact⟨by omega,by omega⟩
end
end
section
theorem Dd.Bqs{m:Nat}{S:Mi}(M:Dd h m S F)(c:Av T h h')(t:∀i,T i->i<h.next->F i):Dd h' m S (Bg F h h'):=by
 refine⟨(M.s.frame c.next fun i a=>c.get i a.1 fun y=>a.2 (t i y a.1)).mono (fun i a=>⟨aK a.1 c.next,fun y=>?_⟩) fun i a=>a.1,Bg.lt M.lt c.next,M.wf⟩;rcases y with y|y
 ·exact a.2 y
 ·have:=a.1;omega
theorem Cz.Bqs(C:Cz h B X F)(c:Av T h h')(t:∀i,T i->i<h.next->F i)(d:HB h'):Cz h' B X (Bg F h h'):=by
 have e:=C.Ag7 c t d;refine⟨(C.M.Bqs c fun i a f=>.inl (t i a f)).less fun i a=>?_,e.core,e.ar,e.map,C.wf,fun i a=>?_,d⟩
 ·rcases a with(a|a)|a
  ·exact .inl (.inl a)
  ·exact .inr a
  ·exact .inl (.inr a)
 ·rcases a with a|a
  ·exact C.out i a
  ·intro y
   have g:=C.hb _ _ C.core;have j:=C.hb _ _ C.ar;have k:=C.hb _ _ C.map.map;have a4:=C.hb _ _ C.map.row;have a5:=C.hb _ _ C.map.live;rcases y with y|y|y|y|y<;>omega
structure Wr where
 block:Int
 bytes:List Nat
def Wr.Wf(w:Wr):Prop:=w.bytes.length=32/\∀b∈w.bytes,b<256
def Wr.cells(w:Wr):List EV:=I w.block::Bh w.bytes
theorem Wr.len {w:Wr}(f:w.Wf):w.cells.length=33:=by unfold Wr.cells;rw[bH,Be,f.1]
structure A0d(h:Ab)(v:EV)(b:Nat)(L:List Wr):Prop where
 row:(v=.Ao/\L = [])\/∃off r op,v=.slice b off L.length r op/\∀j (hj:j<L.length) (k:EV->R),Oz 33 (.ptr b (off+j*33)) h k=k (.agg L[j].cells)
 wf:∀w∈L,w.Wf
theorem A0d.frame{L:List Wr}(r:A0d h v b L)(e:0<L.length->h'.get b=h.get b):A0d h' v b L:=by
 refine⟨?_,r.wf⟩;rcases r.row with y|⟨off,a,op,rfl,y⟩
 ·exact .inl y
 ·refine .inr ⟨off,a,op,rfl,fun j hj k=>?_⟩
  have:=y j hj k;show oB _ (Aq4 (h'.get b) _ 33)=_;rw[e (by omega)];exact this
theorem A0d.F3{L:List Wr}(r:A0d h v b L)(k:EV->R):Ev.F3 v k=k (I L.length):=by
 rcases r.row with⟨rfl,rfl⟩|⟨off,a,op,rfl,_⟩<;>rfl
theorem A0d.at{L:List Wr}(r:A0d h v b L){j:Nat}(hj:j<L.length)(k:EV->R):Z8 33 v (.int .i64 (j:Int)) (fun p=>Oz 33 p h k)=k (.agg L[j].cells):=by
 rcases r.row with⟨rfl,rfl⟩|⟨off,a,op,rfl,y⟩
 ·exact absurd hj (br _)
 ·rw[Lv hj];exact y j hj k
theorem Brd: [EV.int .i64 0]++List.replicate 32 (EV.int .u8 0)=(⟨0,Dp⟩:Wr).cells:=by kernel_rfl
theorem A9x(C:Cz h B X F)(j:Int):Ok (U9 K (.ptr B.c 0) (I j) h) fun v h'=>v=.bool (decide (0<=j)&&decide (j<X.S.g.B))/\Ext h h':=by
 simp only[U9,I,Ac,Aa];have a:Cg (.tuple []) false=false/\Cg (.tuple []) true=false:=⟨rfl,rfl⟩;by_cases h0:0<=j
 ·simp only[h0,aB,Aa,Ac]
  rw[C.ldM];refine Ok.An (Ss (K:=K) C.M C.hb) ?_;rintro _ h2 ⟨rfl,d⟩;unfold gV;rw[Aen (v:=I X.S.g.B) rfl];simp only[I,Ac,Aa,Aeg];exact .ret ⟨by simp,d⟩
 ·simp only[h0,aA,Aa,Ac,Aeg]
  exact .ret ⟨rfl,Av.refl _⟩
section
variable{L:List Wr}(fb:0<L.length->F b)(hL:L.length<=2000000)
include fb hL
end
structure Bvm(h:Ab)(s:EV)(q:Nat)(xs:List Me):Prop where
 row:Cs h s q 47 6 xs.length (xs.map Me.cells).flatten
 rng:∀x∈xs,Rng x.Aj/\Rng x.Ba
section
variable (A:Bj disp)(hK:10000<K){L:List Wr}(fb:0<L.length->F b)(hL:L.length<=4)
include A hK fb hL
end
end
variable {L:List Wr}
section
theorem Bsm(seq block many:Int):Afp (Ed [(0,1),(1,1),(2,1),(3,1),(4,1),(5,1),(6,32)]) [(0,I 2),(1,I seq),(2,I 1),(3,I block),(4,I many)] En.zero.cells=some (⟨2,seq,1,block,many,0,Dp⟩:En).cells:=rfl
theorem Bq7:∀b∈Dp,b<256:=fun b hb=>by rw[bP hb];decide
section
variable (A:Bj disp)(hK:10000<K)(C:Cz h B X F)
include A hK
include C
end
end
theorem Bbt(hK:1000<K)(hb:HB h)(m:Nat):Ok (Auj K (.ptr m 0) h) fun v h'=>v=.ptr h.next 0/\h'.get h.next=some (.cells (arC m (fun _=>-1) fun _=>-1) 152)/\Ext h h'/\HB h':=by
 obtain⟨f,rfl⟩:∃k,K=k+4:=⟨K-4,by omega⟩;simp only[Auj,dr];rw[Ay (l:=arC m (fun _=>0) fun _=>0) rfl];simp only[Aa];have g:Ext h (h.new (.cells (arC m (fun _=>0) fun _=>0) 152)):=Av.new _ _;have j:(h.new (.cells (arC m (fun _=>0) fun _=>0) 152)).get h.next=some (.cells (arC m (fun _=>0) fun _=>0) 152):=Ad _ _
 have l1:h.next<(h.new (.cells (arC m (fun _=>0) fun _=>0) 152)).next:=aL _
 generalize h.new (.cells (arC m (fun _=>0) fun _=>0) 152)=h1 at g j l1⊢;have st:∀(i:Nat) (h2:Ab) (c o:Nat->Int) (n:Nat),i<3->h2.get h.next=some (.cells (arC m c o) 152)->Ext h h2->h.next<h2.next->(∀h3,h3.get h.next=some (.cells (arC m (Om c i (-1)) (Om o i (-1))) 152)->Ext h h3->h.next<h3.next->Ok (Xr (f+4) n (.ptr h.next 0) (I (i+1:Nat)) h3) fun v h'=>v=.ptr h.next 0/\h'.get h.next=some (.cells (arC m (fun _=>-1) fun _=>-1) 152)/\Ext h h'/\HB h')->Ok (Xr (f+4) (n+1) (.ptr h.next 0) (I i) h2) fun v h'=>v=.ptr h.next 0/\h'.get h.next=some (.cells (arC m (fun _=>-1) fun _=>-1) 152)/\Ext h h'/\HB h':=by
  intro i h2 c o n p d e a t;rw[Xr];simp only[I,Ac];have:decide ((i:Int)<3)=true:=by simp;omega
  simp only[this,Aa,A2e];rw[Ay (l:=[I (-1),I (-1)]) rfl]
  try simp only[Aa]
  rw[Air p];refine Ok.st _ d rfl rfl (Bgw p (-1) (-1)) ?_;simp only[A1t,Ac];rw[Cj,show((i:Nat):Int)+1=((i+1:Nat):Int) by omega];exact t _ (Af _ _ _) (e.Ar (.inr (aE _)) a _) a
 refine st 0 h1 _ _ _ (by omega) j g l1 fun h2 d e a=>st 1 h2 _ _ _ (by omega) d e a fun h3 u x y=>st 2 h3 _ _ _ (by omega) u x y fun h4 g4 q D=>?_
 rw[Xr];simp only[I,Ac];simp only[show decide (((2+1:Nat):Int)<3)=false from rfl,Aa,A1m];exact .ret ⟨rfl,g4,q,q.hb hb⟩
theorem A4i(z:List EV):∀n,rep z n=(List.replicate n z).flatten
 | 0=>rfl
 | n+1=>by rw[eI,cC,<-A4i z n];rfl
theorem Bq6(n:Nat):((List.replicate n (Me.nil 0)).map Me.cells).flatten=rep (List.replicate 6 (.int .i64 0)) n:=by
 rw[A4i,fI];rfl
theorem A7a(z:Int):∀n,La (List.replicate n (Me.nil 0)) z=0
 | 0=>rfl
 | n+1=>by
  rw[eI,Tp,A7a z n];unfold Aas;rw[aF (fun y=>by cases y.1)];rfl
theorem Bog(n m:Nat):((List.range n).map fun(z:Nat)=>I (La (List.replicate m (Me.nil 0)) z))=rep [.int .i64 0] n:=by
 rw[Bur];have:(fun(z:Nat)=>I (La (List.replicate m (Me.nil 0)) z))=fun _=>EV.int .i64 0:=by funext z;rw[A7a]
 rw[this,A1s]
theorem Baj {g:Gm}(O:rtB g=true)(hb:HB h):Ok (Atf K (gV g) h) fun v h'=>∃b ml ll,v=.tuple [.ptr b 0,I 0]/\W8 h' b ml ll g (List.replicate g.B.toNat (Me.nil 0))/\Ext h h'/\HB h'/\h.next<=b/\h.next<=ml/\h.next<=ll:=by
 have s:=Nw O;have:=s.b0;have:=s.b1;have:=s.d0;have:=s.d1;have:=s.z0;have:=s.z1;obtain⟨m0,m1⟩:=Va (a:=g.D) (b:=g.Z) (A:=8) (B:=64) (by omega) (by omega) (by omega) (by omega);simp only[Atf,gV,Aa];obtain⟨h1,G,k,Q,n1⟩:=nW h (.cells (gL g) 23);rw[G];have m:=k.hb hb;rw[Db Q rfl,Ai (n:=6) rfl]
 try simp only[Aa]
 rw[show EV.agg (gL g)=gV g from rfl];refine(Ae1 (K:=K) g h1).An ?_;rintro _ h2 ⟨rfl,i⟩;have d:=i.hb m;have u:=i.at m Q;have H:=d _ _ u;simp only[O,Aa,A2u];rw[Ku H,Db u rfl,Ai (n:=6) rfl];simp only[Aa,Aw];rw[Ku H,Al u rfl (v:=I g.B) rfl];simp only[Aa,Aw];have U:I g.B=I (g.B.toNat:Int):=by rw[fV (by omega)]
 rw[U,Aqc (by omega),As];have j:Ext h2 (h2.new (.cells (rep (List.replicate 6 (.int .i64 0)) g.B.toNat) 47)):=Av.new _ _;have S:(h2.new (.cells (rep (List.replicate 6 (.int .i64 0)) g.B.toNat) 47)).get h2.next=some (.cells (rep (List.replicate 6 (.int .i64 0)) g.B.toNat) 47):=Ad _ _
 have n3:(h2.new (.cells (rep (List.replicate 6 (.int .i64 0)) g.B.toNat) 47)).next=h2.next+1:=rfl
 have e3:([EV.int .i64 0,.int .i64 0,.int .i64 0,.int .i64 0,.int .i64 0,.int .i64 0]:List EV)=List.replicate 6 (.int .i64 0):=rfl;rw[e3];generalize h2.new (.cells (rep (List.replicate 6 (.int .i64 0)) g.B.toNat) 47)=h3 at j S n3⊢;have e:=j.hb d;have o:=j.at d u;have l3:=e _ _ o;rw[Ku (show h.next<h2.next from H),Db o rfl,Ai (n:=6) rfl];simp only[Aa,Aw];rw[show EV.agg (gL g)=gV g from rfl];refine Ok.Bwm (P:=fun v h'=>v=I (g.D*g.Z)/\Ext (Mx 16 ⟨0,[(Nat.shiftLeft 1 3,h2.next)],[(Nat.shiftLeft 1 4,h.next),(Nat.shiftLeft 1 2,h.next),(Nat.shiftLeft 1 0,h.next)],[],[]⟩ h3) h') (by kernel_rfl) ?_ (fun _ _ p=>p.2) ?_
 ·rw[Lo s]
  exact .ret ⟨rfl,Av.new _ _⟩
 ·rintro _ V h4 ⟨rfl,W⟩ eg en q
  have t:=q.hb e;have J:=q.at e S;have hN:I (g.D*g.Z)=I ((g.D*g.Z).toNat:Int):=by rw[fV (by omega)]
  try simp only[Aa,Aw]
  rw[hN,Aqc (by omega),As];obtain⟨M,G,y,g5,n5⟩:=nW h4 (.cells (rep [.int .i64 0] (g.D*g.Z).toNat) 3);rw[G];have f:=y.hb t;rw[Ay (l:=gL g++[.slice h2.next 0 g.B.toNat g.B.toNat false,.slice h4.next 0 (g.D*g.Z).toNat (g.D*g.Z).toNat false]) rfl];simp only[Aa,Aw];have E:Ext M (M.new (.cells (gL g++[.slice h2.next 0 g.B.toNat g.B.toNat false,.slice h4.next 0 (g.D*g.Z).toNat (g.D*g.Z).toNat false]) 115)):=Av.new _ _;refine .ret ⟨M.next,h2.next,h4.next,rfl,⟨Ad _ _,by rw[Bq6];exact E.at f (y.at t J),by rw[Bog];exact E.at f g5,by rw[bQ],fun x hx=>by rw[bP hx];unfold meR;rw[aG (.inl rfl)];exact aM rfl⟩,((((k.trans i).trans j).trans q).trans y).trans E,E.hb f,?_,?_,?_⟩
  ·have:=k.next;have:=i.next;have:=j.next;have:=q.next;have:=y.next;omega
  ·have:=k.next;have:=i.next;omega
  ·have:=k.next;have:=i.next;have:=j.next;have:=q.next;omega
end Go.Ev
