import Derived.Test.YtadnemjjlacolaaGreatLb
import Derived.Test.YtadnemjjlacolaaGreatNe
import Derived.Test.YtadnemjjlacolaaGreatDc
set_option linter.all false
namespace Go.Ev
open Go.Proofs
set_option maxRecDepth 100000
set_option maxHeartbeats 4000000
variable {F:Nat->Prop}{h h0:Ab}{B:Cb}{X:Co}{L:List (List Nat)}{mt:Int->Int}{v v1:EV}{O:List H0}{disp:Nat->Option FT}{K:Nat}
section
noncomputable section
section
variable (c r:Ah)(K l:Nat)(k0:A0)(k1:A1)(k2:A2)(k3:A3)(k4:A4)(k5:A5)(k6:A6)(k7:A7)(k8:A8)(k9:A9)(k10:A10)(k11:A11)(k12:A12)(m0:B0)(m1:B1)(m2:B2)(m3:B3)(m4:B4)(m5:B5)(m6:B6)(m7:B7)(m8:B8)(m9:B9)(m10:B10)(m11:B11)(m12:B12)(base:Nat)(s:DX)(tm:Ax)(a b d e f g i j n o p q t u w x y z aa ab ad ae af ag ai aj an ao ap aq au aw ax ay az ba bb bd be bf bg bi bj bn bo bp bq bt bu bw bx bz da db dd de df dg di dj dn dp dq dt du dw dx dy dz ea eb ed ee ef eg ei ej en eo ep eq et eu ew ex ey ez fa fb fd fe ff fg fi fj fn fo fp fq ft fu fw fx fy fz ga gb gd ge gf gg gi gj gn go gp gq gt gu gw gx gy gz ia ib ie ig ii ij io ip iq it iu iw ix iy iz ja jb:EV)(h:Ab)(ds:List Nat)
def Vp:Ru K (Ru r (Ru c R)):=
 pkA a b fun d=>
 some (d,h)
def Nl:R:=(.mk:Sg 0x12022102321043201a2a00415e702e [a,b,d] h [c 28,D5 (Vp c r K)]).F
def V6:Ru K (Ru r (Ru c R)):=
 Iz g fun i=>
 k6 a b d e f i h
def Wd:R:=
 Bv (Mv 1) (List.replicate 32 (.int .u8 0)) [] fun i=>
 Z8 32 e g fun j=>
 stE 32 j i h fun h=>
 V6 c r K k6 a b d e f g h
def Wj:R:=(.mk:Sg 0x18765436004023289809e [a,b,d,e,f,g,i,j] h [cl6 (Wd c r K k6)]).F
def Vw:R:=(.mk:Sg 0x1202dcba988202502e01e00edcb8202321e802e0007e36508e2d00315e802e321e0606e20ce822114101 [a,b,d,e,f,g] h [Ey (C0 K),D5 (Gp K),cl8 (Wj c r K k6)] [cu0 (Bv (Ed [(0,1),(1,1),(2,1),(3,1),(4,1),(5,1)]) [.int .i64 0,.int .i64 0,.int .i64 0,.int .i64 0,.int .i64 0,.int .i64 0] [])] [[.int .i64 0,.int .i64 0,.int .i64 0,.int .i64 0,.int .i64 0,.int .i64 0]]).F
def Ez(c:Ah)(r:Ah)(K:Nat):Nat->A6
 | 0=>fun _ _ _ _ _ _ _=>none
 | m+1=>fun a b d e f g h=>
  A8q a b fun i=>
  cE Iq .lss 3 g i
  (Vw c r K (Ez c r K m) a b d e f g h)
  (Nl c r K d e f h)
def Wb:R:=
 Ez c r K K a b d e f a h
def Je:Ru K (Ru r (Ru c R)):=
 pkA a b fun d=>
 some (d,h)
def Em:R:=(.mk:Sg 0x1765435202022102321076201a2a03e0715e702e0be288709e [a,b,d,e,f,g,i] h [c 28,D5 (Je c r K),cl5 (Wb c r K)]).F
def F4:R:=(.mk:Sg 0x12028764370025ba9767002622e421ee53405e2d9809e [a,b,d,e,f,g,i,j] h [cl7 (Em c r K)]).F
def Ib:R:=(.mk:Sg 0x120287654380024a987658002423e53403e2d9809e [a,b,d,e,f,g,i,j] h [cl8 (F4 c r K)]).F
def Ig:R:=(.mk:Sg 0x12023876548102349876581010520e01e2d00320e325301 [a,b,d,e,f] h [c 30,cl8 (Ib c r K)]).F
def Mq:Ru K (Ru r (Ru c R)):=
 Iz j fun n=>
 k8 a b d e f g i n h
def Ih:R:=(.mk:Sg 0x1ba976543810dcb287658108220183ae505e28cb0be [a,b,d,e,f,g,i,j,n,o,p] h [D5 (C9 K),cl8 (Mq c r K k8)]).F
def Un:R:=(.mk:Sg 0x120200edc4ba987b102503e02e01e700edcbab1000215e702eb220143ae50ee2a10224e204214e03ae06e23ae5973ae15e [a,b,d,e,f,g,i,j] h [c 13,Bsw (Ih c r K k8)] [] [List.replicate 3 (.int .i64 0)++[.Ao]++List.replicate 4 (.int .i64 0)++List.replicate 64 (.int .u8 0)]).F
def Dt(c:Ah)(r:Ah)(K:Nat):Nat->A8
 | 0=>fun _ _ _ _ _ _ _ _ _=>none
 | m+1=>fun a b d e f g i j h=>
  cE Iq .lss 3 j i
  (Un c r K (Dt c r K m) a b d e f g i j h)
  (Ig c r K a b d e f h)
def Uy:R:=(.mk:Sg 0x1002539876810413e22201534 [a,b,d,e,f] h [D5 (Mp (List.replicate 32 (.int .u8 0)) 49),cl8 (Dt c r K K)]).F
def H9:R:=(.mk:Sg 0x1765435005023288709e [a,b,d,e,f,g,i] h [cl5 (Uy c r K)]).F
def Uv:R:=(.mk:Sg 0x120238765710245a98771001222e513e02e2d7020ce702e2101565 [a,b,d,e] h [c 12,cl7 (H9 c r K)] [] [] [(.int .i64 60)]).F
def Qp:R:=(.mk:Sg 0x1487641040232820fe001209e9 [a,b,d,e] h [c 11,Zc (Uv c r K)]).F
abbrev Of(K:Nat)(c:Ah):Ah:=(w1 16 (C0 K) (w2 31 (Gp K) (w2 25 (C9 K) c)))
end
variable{d:Nat}(H:Bj disp)
include H
omit H in
theorem Afd(c r:Ah)(K:Nat)(m:Nat):lpB false (Of K c) c r K 6 3327 [(2,fun k tm h ds=>Nl c r K (k 9) (k 10) (k 13) h)] m=(fun m k tm h ds=>Ez c r K m (k 2) (k 3) (k 9) (k 10) (k 13) (k 14) h) m:=
 Lp (E:=fun m k tm h ds=>Ez c r K m (k 2) (k 3) (k 9) (k 10) (k 13) (k 14) h) rfl (fun m=>Avq fun k tm h ds=>by kernel_rfl) m
omit H in
theorem Aex(c r:Ah)(K:Nat)(m:Nat):lpB false (Of K c) c r K 6 415 [(0,fun k tm h ds=>Ig c r K (k 2) (k 3) (k 4) (k 9) (k 10) h)] m=(fun m k tm h ds=>Dt c r K m (k 2) (k 3) (k 4) (k 9) (k 10) (k 31) (k 32) (k 33) h) m:=
 Lp (E:=fun m k tm h ds=>Dt c r K m (k 2) (k 3) (k 4) (k 9) (k 10) (k 31) (k 32) (k 33) h) rfl (fun m=>Avq fun k tm h ds=>by kernel_rfl) m
theorem Ag2(hd:3<=d):S4 disp K d 6 Qp:=fun _ _ _ _=>rm (q:=false) (D:=Of K (Ae TT disp K d false)) (by kernel_rfl) rfl rfl H (V1 (Py H) hd<|V2 (Ix H) hd<|V2 (Jd H) hd<|rfl) (cut [true,true,true,true,true,true,true,true,false,true,false] (Afd (Ae TT disp K d false) (Ae TT disp K d true) K K) (by kernel_rfl) (by kernel_rfl) (cut [true,true,true,true,true,false,true,false] (Aex (Ae TT disp K d false) (Ae TT disp K d true) K K) (by kernel_rfl) (by kernel_rfl) rfl))
end
end
section
theorem Lb.lB{g:Gm}{i:Nat}{q:Nat}(l:Lb F g h0 h B X L mt i v q):(L.length:Int)=g.B:=by
 have:=l.w.j.c.lb;have:=l.w.j.c.len;have b0:=l.w.j.c.c.sm.b0;rw[l.w.gg]at *;omega
section
variable (A:Bj disp)(hK:3000000<K){d:Nat}(hd:31<=d){N:Nat}{g:Gm}(lF:∀i,i<N->F i){i:Nat}(hi:i<=60){q:Nat}
include A hK hd lF hi
end
end
section
theorem Bum(x y:Me)(k:EV->R):Kl Alb (bin TT .neq 47) (.agg x.cells) (.agg y.cells) k=k (.bool (!decide (x=y))):=by
 have he:TT.eqs 47=some [0,0,0,0,0,0]:=by kernel_rfl
 have m:Axy TT 47 (.agg x.cells) (.agg y.cells)=some (decide (x=y)):=by
  show(match TT.eqs 47 with|some sh=>Bf (shaped sh x.cells) (F1 x.cells y.cells) none|none=>none)=_;rw[he];simp only;rw[show shaped [0,0,0,0,0,0] x.cells=true from rfl,Ak,show x.cells=x.row.map I from rfl,show y.cells=y.row.map I from rfl,A5a x.row y.row rfl];congr 1;rw[eD];exact Me.Bjc
 show oB k (match Axy TT 47 (.agg x.cells) (.agg y.cells)with|some b=>some (EV.bool (Bf b false true))|none=>none)=_;rw[m];cases decide (x=y)<;>rfl
section
variable (A:Bj disp)(hK:3000000<K){d:Nat}(hd:31<=d){N a4 b:Nat}{g:Gm}{blk many:Int}{Q:EV->Ab->Prop}(lF:∀i,i<N->F i)(l0:N<=h0.next)(hb0:HB h0)(f4:F a4)(ga4:h0.get a4=some (.cells (gL g) 23))(R0:So h0 N v1 b O)(hL:O.length<=60)
include A hK hd
theorem Bhv(S:∀h,Kf F h0 h->Q (.bool true) h){Y:Co}{q b n:Nat}(hb:(b:Int)+n<=L.length)(T:∀i:Nat,b<=i->i<b+n->Y.es[i]? = some (Me.nil 0))(J:Jc Y (Aoz L b n) mt)(lq:h0.next<=q):∀(f i:Nat) (h:Ab),n-i<f->i<=n->Cz h B Y (fun j=>F j\/j=q)->Bk h v q (Aoz L b i)->Kf F h0 h ->
 Ok (Ez (Ae TT disp K (d+1) false) (Ae TT disp K (d+1) true) K f (I (b:Int)) (I (n:Int)) (.ptr B.c 0) v (I 0) (I ((b+i:Nat):Int)) h) Q:=by
 intro f;induction f with
 | zero=>intro i h U;omega
 | succ f V=>
  intro i h U hi C E k0;rw[Ez];have ln:=E.n;have tl:=A3y L b i;simp only[I,Ac];rw[Cj (n:=(b:Int)+n) (by omega) (by omega)];have W:Cg (.tuple []) false=false/\Cg (.tuple []) true=false:=⟨rfl,rfl⟩;by_cases ah:i<n
  ·have m:decide (((b+i:Nat):Int)<(b:Int)+n)=true:=by simp;omega
   simp only[m,Aa,Vw,C0];rw[C.ldB]
   try simp only[Aa]
   refine Ok.An (Qh (K:=K) C.sm C.map C.hb ((b+i:Nat):Int)) ?_;rintro _ h2 ⟨rfl,M⟩;rw[Ait (T (b+i) (by omega) (by omega))];simp only[Aa];have C2:=(C.toE M).C;refine Ok.mk rfl rfl fun h3 x3 e3 _=>?_
   have D:=M.trans x3;have P:=(C.toE D).C;have b3:=E.frame (h':=h3) (D.get _ (E.lt C.hb) id);simp only[I,Ac,aD,aA,Aa];rw[Bp e3 rfl (Ai (n:=6) rfl),Ay (l:=(Me.nil 0).cells) rfl,Bum];simp only[aB,dR,Aa,Ac,Wj,Wd];rw[Io,Ay (l:=Bh Dp) rfl];refine b3.put P.hb (j:=b+i) (by omega) (bs:=Dp) rfl fun h4 b4 c4 G=>?_
   simp only[V6,Ac];rw[Cj,show(((b+i:Nat):Int))+1=((b+(i+1):Nat):Int) by omega];have C4:=P.Ag7 c4 (fun j hj _=>.inr hj) G;refine V (i+1) h4 (by omega) (by omega) C4 b4 ((k0.trans (Ext.kf D)).then c4 fun j hj y=>?_);have hj:j=q:=hj;omega
  ·have m:decide (((b+i:Nat):Int)<(b:Int)+n)=false:=by simp;omega
   have ei:i=n:=by omega
   subst ei;simp only[m,Aa,Nl,Ac,aB];refine(Aus (K:=K) A hK (d:=d) (by omega) (q:=q) (F:=fun j=>F j\/j=q) (.inr rfl) C J E).An ?_;rintro _ h2 ⟨rfl,Z,c2,_⟩;simp only[Aa,Ac,Vp];exact .ret (S _ (k0.trans (c2.less (F:=F) fun j=>.inl).k))
theorem Bj8(f4:F a4)(hb0:HB h0)(ga4:h0.get a4=some (.cells (gL g) 23))(J:∀h,Kf F h0 h->Q (.bool true) h){i:Nat}(hi:i<=60){q:Nat}(l:Lb F g h0 h B X L mt i v q):
 Ok (Ig (Ae TT disp K (d+1) false) (Ae TT disp K (d+1) true) K (I blk) (I many) (.ptr a4 0) (.ptr B.c 0) v h) Q:=by
 have S:Cg (.tuple []) false=false/\Cg (.tuple []) true=false:=⟨rfl,rfl⟩;have gen:=l.w.gen;have nx:=l.w.nx;have s:Sm g:=by rw[<-l.w.gg];exact l.w.j.c.c.sm
 have b1:=s.b1;have b0:=s.b0;simp only[Ig,Aa];refine(A2s (K:=K) A (by omega) l.C l.w.j (by omega) (by omega) (d:=d+1) (by omega) blk many).An ?_;rintro _ h2 ⟨e,Y,L',mt',rfl,c2,D,V,w2⟩;have k2:=l.k.trans (c2.less (F:=F) fun j=>.inl).k;have b2:=l.b.frame (h':=h2) (c2.k.get _ (l.b.lt l.C.hb) fun y=>y (.inr rfl));have T:=Kf.at k2 hb0 ga4 f4;have M:∀k:EV->R,Fm (.ptr a4 3) h2 k=k (I g.B):=fun k=>Al T rfl rfl
 rw[l.w.gg]at w2;have no:We g blk many=false->Ok (Kl An2 (bin TT .eql 35) (I e) (.int .i64 13) fun m=>Bf (Cg m true) (An (Ae TT disp K (d+1) false 28 [.ptr B.c 0,v] h2) fun E h=>Je (Ae TT disp K (d+1) false) (Ae TT disp K (d+1) true) K m E h) (Je (Ae TT disp K (d+1) false) (Ae TT disp K (d+1) true) K m (.tuple []) h2)) Q:=fun G=>by
  rcases w2 with⟨_,rfl,rfl,rfl⟩|⟨y,_⟩
  ·simp only[I,Ac,aB,Aa]
   refine(Aus (K:=K) A hK (d:=d) (by omega) (q:=q) (F:=fun j=>F j\/j=q) (.inr rfl) c2.C D b2).An ?_;rintro _ W ⟨rfl,Z,c3,_⟩;simp only[Aa,Ac,Je];exact .ret (J _ (k2.trans (c3.less (F:=F) fun j=>.inl).k))
  ·rw[G]at y;cases y
 simp only[I,Ac]at no⊢;by_cases m1:blk<0
 ·simp only[m1,aB,Aa,Ac,Ib,F4,Em]
  exact no (by unfold We;rw[aP (show ¬0<=blk by omega)];rfl)
 simp only[m1,aA,Aa,Ac];by_cases m2:many<1
 ·simp only[m2,aB,Aa,Ac,Ib,F4,Em]
  exact no (by unfold We;rw[aP (show ¬1<=many by omega),bA,cS])
 simp only[m2,aA,Aa,Ac,Ib];rw[M];simp only[I,Ac];by_cases m3:g.B<=blk
 ·simp only[m3,aB,Aa,Ac,F4,Em]
  exact no (by unfold We;rw[aP (show ¬blk<g.B by omega),cS];rfl)
 simp only[m3,aA,Aa,Ac,F4];rw[M];simp only[I,Ac];rw[Cj (n:=g.B-blk) (by omega) (by omega)];by_cases m4:g.B-blk<many
 ·simp only[m4,aB,Aa,Ac,Em]
  exact no (by unfold We;rw[aP (show ¬many<=g.B-blk by omega),cS,cS])
 simp only[m4,aA,Aa,Ac,Em,Wb];have G:We g blk many=true:=by
  unfold We;rw[aM (show 0<=blk by omega),aM (show blk<g.B by omega),aM (show 1<=many by omega),aM (show many<=g.B-blk by omega)];rfl
 rcases w2 with⟨y,_⟩|⟨_,rfl,rfl,U⟩
 ·rw[G]at y;cases y
 obtain⟨b,rfl⟩:=aY (show 0<=blk by omega);obtain⟨n,rfl⟩:=aY (show 0<=many by omega);rw[aZ,aZ]at D;have lB:=l.lB;have P:=Bhv (K:=K) (F:=F) (h0:=h0) (Q:=Q) (B:=B) A hK hd J (L:=L) (b:=b) (n:=n) (v:=v) (q:=q) (by omega) (fun i a c=>U i (by omega) (by omega)) D l.n K 0 h2 (by omega) (by omega) c2.C b2 k2;rw[dL]at P;exact P
include lF l0 hb0 f4 ga4 R0 hL
theorem Bhw(Z:∀h,Kf F h0 h->Q (.bool true) h):∀(f i:Nat) (h:Ab) (X:Co) (L:List (List Nat)) (mt:Int->Int) (v:EV) (q:Nat),O.length-i<f->i<=O.length->Lb F g h0 h B X L mt i v q ->
 Ok (Dt (Ae TT disp K (d+1) false) (Ae TT disp K (d+1) true) K f (I blk) (I many) (.ptr a4 0) (.ptr B.c 0) v v1 (I O.length) (I i) h) Q:=by
 intro f;induction f with
 | zero=>intro i h X L mt v q hf;omega
 | succ f ih=>
  intro i h X L mt v q hf hi l;rw[Dt];simp only[I,Ac];have a0:Cg (.tuple []) false=false/\Cg (.tuple []) true=false:=⟨rfl,rfl⟩;by_cases G:i<O.length
  ·have:decide ((i:Int)<(O.length:Int))=true:=by simp;omega
   have V:=R0.frame (h':=h) fun j hj=>l.k.get j (by omega) fun y=>y (lF j hj)
   simp only[this,Aa,Un];refine Au8 V G fun h2 S J n2=>?_
   obtain⟨oa,ob,T,W⟩:=V.Qu _ (av G);generalize O[i]=o at oa ob T W J;have ol:=H0.len oa.ev;have E:=l.ext S;have U:∀k:EV->R,Fm (.ptr h.next 0) h2 k=k (I o.kind):=fun k=>(Aaa J k).1
   have o2:o.At h2:=⟨oa.row.frame fun y=>by
    have l3:=l.C.M.lt _ (.inl (.inl (lF _ (ob y))));rw[S.get _ l3 id],oa.ev,oa.pl⟩
   have cp:Cz h2 B X (fun j=>(F j\/j=q)\/j=h.next):=(l.C.ext S).less fun j hj=>by
    rcases hj with hj|rfl
    ·exact .inl hj
    ·exact .inr ⟨aE _,by omega⟩
   have D:∀h' Y L' mt' P q',Lb F g h0 h' B Y L' mt' (i+1) P q'->Ok (Mq (Ae TT disp K (d+1) false) (Ae TT disp K (d+1) true) K (Dt (Ae TT disp K (d+1) false) (Ae TT disp K (d+1) true) K f) (.int .i64 blk) (.int .i64 many) (.ptr a4 0) (.ptr B.c 0) P v1 (.int .i64 (O.length:Int)) (.int .i64 (i:Int)) h') Q:=fun h' Y L' mt' P q' l'=>by
    simp only[Mq,Ac];rw[Cj,show((i:Nat):Int)+1=((i+1:Nat):Int) by omega];exact ih (i+1) h' Y L' mt' P q' (by omega) (by omega) l'
   rw[U];simp only[I,Ac];by_cases k1:o.kind=1
   case neg=>
    simp only[k1,aA,Aa,Ac,Ih];exact D h2 X L mt v q ⟨E.C,E.w.more,E.b,E.k,E.n⟩
   simp only[k1,aB,Aa,Ac];rw[Bp J rfl (Ai ol)];refine(A3g (K:=K) A hK (d:=d+1) (by omega) (N:=N) lF (by omega) E J o2 ob T W (by omega) cp).An ?_;rintro _ h3 ⟨e,Y,L',mt',rfl,z,g3,o3,di⟩;simp only[I,Ac];by_cases m:e=0
   ·simp only[m,aB,Aa,Ac,Ih]
    rw[Bp g3 rfl (Ai ol)];refine(Aqk (K:=K) hK (N:=N) lF z l.w.gg (l.w.len z.2.1) o3 ob T di m).An ?_;rintro w h4 ⟨q',l4⟩;exact D h4 Y L' mt' w q' l4
   ·simp only[m,aA,Aa,Ac,Ih]
    exact D h3 Y L' mt' v q (Au6 z di m l.n)
  ·have:decide ((i:Int)<(O.length:Int))=false:=by simp;omega
   simp only[this,Aa];exact Bj8 A hK hd f4 hb0 ga4 Z (by omega) l
end
end
theorem Bkn(A:Bj disp)(hK:3000000<K){d:Nat}(hd:31<=d)(P:∀h,Ae TT disp K (d+1) false 11 [] h=some (.bool true,h))(g:Gm)(hb:HB h){b:Nat}(blk many:Int)(R0:So h h.next v1 b O):
 Ok (Qp (Ae TT disp K (d+1) false) (Ae TT disp K (d+1) true) K (gV g) v1 (I blk) (I many) h) fun v h'=>v=.bool true/\∀i,i<h.next->h'.get i=h.get i:=by
 simp only[Qp,gV,Aa,P];obtain⟨m,Y,S,U,n1⟩:=nW h (.cells (gL g) 23);rw[Y];have C:=S.hb hb;simp only[Uv,Aa];rw[Db U rfl,Ai (n:=6) rfl]
 try simp only[Aa]
 rw[show EV.agg (gL g)=gV g from rfl];refine(Yz (K:=K) A (by omega) (d:=d+1) (by omega) g C).An ?_;rintro v h2 ⟨k2,T,J⟩;have R2:So h2 h.next v1 b O:=R0.frame fun i hi=>by rw[k2.get i (by omega) fun y=>y (show i<m.next by omega),S.get i hi id]
 have E:=k2.at C U (show h.next<m.next by omega);have ah:Cg (.tuple []) false=false/\Cg (.tuple []) true=false:=⟨rfl,rfl⟩;have t2:=k2.next
 have Gx:∀(F:Nat->Prop) (h':Ab),(∀i,i<m.next->F i)->Kf F h2 h'->∀i,i<h.next->h'.get i=h.get i:=fun F h' hF k i hi=>by
  rw[k.get i (by omega) fun y=>y (hF i (by omega)),k2.get i (by omega) fun y=>y (show i<m.next by omega),S.get i hi id]
 by_cases M:rtB g=true/\g.D*g.Z<=64
 case neg=>
  rw[aF M]at J;subst J;rw[Ai6];simp only[Aa,Ac,H9];exact .ret ⟨rfl,Gx (fun _=>True) h2 (fun _ _=>trivial) (Av.refl _)⟩
 rw[aG M]at J;obtain⟨B,rfl,C2,lB⟩:=J;rw[Aoy];simp only[Aa,Ac];rw[R2.F3];simp only[I,Ac];by_cases G:60<(O.length:Int)
 ·simp only[G,aB,Aa,Ac,H9]
  exact .ret ⟨rfl,Gx (fun _=>True) h2 (fun _ _=>trivial) (Av.refl _)⟩
 simp only[G,aA,Aa,Ac,H9,Uy];rw[Al E rfl (v:=.int .i64 g.B) rfl];obtain⟨V,v3,em,b3,W,n3⟩:=A3n (Nw M.1) h2;rw[em,As,R2.F3];have R3:So h2 h.next v1 b O:=R2
 have l3:Lb (fun i=>i<m.next) g h2 V B (Co.start g) (Tq g) (fun _=>-1) 0 v3 h2.next:=⟨(C2.ext W).less fun j hj=>by
  rcases hj with hj|rfl
  ·exact .inl hj
  ·exact .inr ⟨aE _,by omega⟩,LwI.start M.1,b3,Ext.kf W,aE _⟩
 exact Bhw (K:=K) (Q:=fun v h'=>v=.bool true/\∀i,i<h.next->h'.get i=h.get i) A hK hd (F:=fun i=>i<m.next) (N:=h.next) (fun i hi=>by show i<m.next;omega) (by omega) T (show h.next<m.next by omega) E R3 (by omega) (fun h' k=>⟨rfl,Gx _ h' (fun _ y=>y) k⟩) K 0 V _ _ _ _ _ (by omega) (by omega) l3
end Go.Ev
