import Derived.Test.YtadnemjjlacolaaGreatLb
import Derived.Test.YtadnemjjlacolaaGreatNe
import Derived.Test.YtadnemjjlacolaaGreatDc
set_option linter.all false
namespace Go.Ev
open Go.Proofs
set_option maxRecDepth 100000
set_option maxHeartbeats 4000000
variable {h h0:Ab}{B:Cb}{X:Co}{F:Nat->Prop}{L:List (List Nat)}{mt:Int->Int}{v v1:EV}{O:List H0}{disp:Nat->Option FT}{K a3:Nat}{blk:Int}{Q:EV->Ab->Prop}
section
noncomputable section
section
variable (c r:Ah)(K l:Nat)(k0:A0)(k1:A1)(k2:A2)(k3:A3)(k4:A4)(k5:A5)(k6:A6)(k7:A7)(k8:A8)(k9:A9)(k10:A10)(k11:A11)(k12:A12)(m0:B0)(m1:B1)(m2:B2)(m3:B3)(m4:B4)(m5:B5)(m6:B6)(m7:B7)(m8:B8)(m9:B9)(m10:B10)(m11:B11)(m12:B12)(base:Nat)(s:DX)(tm:Ax)(a b d e f g i j n o p q t u w x y z aa ab ad ae af ag ai aj an ao ap aq au aw ax ay az ba bb bd be bf bg bi bj bn bo bp bq bt bu bw bx bz da db dd de df dg di dj dn dp dq dt du dw dx dy dz ea eb ed ee ef eg ei ej en eo ep eq et eu ew ex ey ez fa fb fd fe ff fg fi fj fn fo fp fq ft fu fw fx fy fz ga gb gd ge gf gg gi gj gn go gp gq gt gu gw gx gy gz ia ib ie ig ii ij io ip iq it iu iw ix iy iz ja jb:EV)(h:Ab)(ds:List Nat)
def Jr:Ru K R:=(.mk:Sg 0x137e41104e243623533c037e05e [a] h [] [] [[.int .i64 0,.int .i64 0,.int .i64 0]]).F
def Akv:Ru K (Ru r R):=(.mk:Sg 0x12232201 [a,b] h [c 74]).F
def Arn:R:=(.mk:Sg 0x15421003e0232820fe32201 [a,b] h [D5 (U9 K),D5 (Akv c r K)]).F
def Uh:Ru K (Ru r (Ru c R)):=
 pkA a b fun d=>
 some (d,h)
def U1:R:=(.mk:Sg 0x12022102321043201a2a540be [a,b,d,e] h [c 28,D5 (Uh c r K)]).F
def Uz:R:=(.mk:Sg 0x12024341026874102324e70ae21007e310106e2a650be [a,b,d,e,f] h [Ey (Jr K),Zc (U1 c r K)] [cu1 (fun i=>Aej 2 false 0 i)]).F
def Uw:R:=(.mk:Sg 0x120275450025a875002324e75485403e2a6224e644 [a,b,d,e,f] h [cl5 (Uz c r K)]).F
def Ut:Ru K (Ru r (Ru c R)):=
 pkA a b fun d=>
 some (d,h)
def Ur:R:=(.mk:Sg 0x13cba95402022302523003e224e21007ec12102e2a2321e702ec6536516e1023801ea04321e0606e20ce322113101 [a,b,d,e,f] h [Ey (C0 K),D5 (Gp K),Ey (Jr K),D5 (Ut c r K),cl5 (Uw c r K)] [cu1 (fun w=>Aej 2 false 0 w)] [[.int .i64 0,.int .i64 0,.int .i64 0,.int .i64 0,.int .i64 0,.int .i64 0]]).F
def T5:Ru K (Ru r (Ru c R)):=
 pkA a b fun d=>
 some (d,h)
def Ml:R:=(.mk:Sg 0x135cba5604023212e20225023250dc241a2a03e0215e702e0be612e9a23121007e8121321e0606e20ce322113101 [a,b,d] h [Ey (C0 K),D5 (Gp K),Ey (Jr K),c 35,c 28,D5 (T5 c r K),cl5 (Ur c r K)] [cu1 (fun n=>Aej 2 false 0 n)] [[.int .i64 0,.int .i64 0,.int .i64 0,.int .i64 0,.int .i64 0,.int .i64 0]]).F
def Ux:R:=(.mk:Sg 0x15433004023286509e [a,b,d,e,f] h [Lz (Ml c r K)]).F
def T7:R:=(.mk:Sg 0x12025435102476551020fe5420101e2d6509e [a,b,d,e,f] h [c 28,cl5 (Ux c r K)]).F
def Hv:R:=(.mk:Sg 0x120287651023987510944802ed2d00215e802e20ce3101 [a,b,d,e] h [c 34,cl5 (T7 c r K)]).F
def Lh:Ru K (Ru r (Ru c R)):=
 Iz g fun i=>
 k6 a b d e f i h
def Hy:R:=
 pkO g i fun j=>
 Lh c r K k6 a b d j e f h
def Hq:R:=(.mk:Sg 0x1207654327002876543700980bed7d [a,b,d,e,f,g,i,j] h [cl7 (Hy c r K k6)]).F
def Ht:R:=(.mk:Sg 0x12098764328202cba976582000224e6221131010ae9a [a,b,d,e,f,g,i,j] h [Ey (C0 K),D5 (H5 K),cl8 (Hq c r K k6)]).F
def Sv:R:=(.mk:Sg 0x1205767432810268785438107320102e5d [a,b,d,e,f,g] h [c 19,cl8 (Ht c r K k6)]).F
def Dl(c:Ah)(r:Ah)(K:Nat):Nat->A6
 | 0=>fun _ _ _ _ _ _ _=>none
 | m+1=>fun a b d e f g h=>
  cE Iq .lss 3 g f
  (Sv c r K (Dl c r K m) a b d e f g h)
  (Hv c r K a b d e h)
def Hs:R:=(.mk:Sg 0x10024986620211156501225e4101 [a,b,d,e] h [c 33,Ey (Da K),cl6 (Dl c r K K)] [] [] [(.int .i64 (-1))]).F
def Lj:Ru K (Ru r (Ru c R)):=
 Iz i fun j=>
 k7 a b d e f g j h
def Fv:R:=(.mk:Sg 0x1a986543710cba27657107220173ae504e28ba0be [a,b,d,e,f,g,i,j,n,o] h [D5 (C9 K),cl7 (Lj c r K k7)]).F
def Hr:R:=(.mk:Sg 0x1202a9876543a1025dcba9876a1000215e702e6220173ae50de2aba0be [a,b,d,e,f,g,i,j,n,o] h [c 13,Bk7 (Fv c r K k7)]).F
def Su:R:=(.mk:Sg 0x1202dcb4a987a002401e00ed6cba9a0030221e40406e2a10223e204214e03ae06e23ae5863ae15e [a,b,d,e,f,g,i] h [Bk7 (Hr c r K k7)] [] [List.replicate 3 (.int .i64 0)++[.Ao]++List.replicate 4 (.int .i64 0)++List.replicate 64 (.int .u8 0)]).F
def Dn(c:Ah)(r:Ah)(K:Nat):Nat->A7
 | 0=>fun _ _ _ _ _ _ _ _=>none
 | m+1=>fun a b d e f g i h=>
  cE Iq .lss 3 i g
  (Su c r K (Dn c r K m) a b d e f g i h)
  (Hs c r K a b d e h)
def Sr:R:=(.mk:Sg 0x100253876710413e22201434 [a,b,d,e] h [D5 (Mp (List.replicate 32 (.int .u8 0)) 49),cl7 (Dn c r K K)]).F
def Hw:R:=(.mk:Sg 0x165434005023287609e [a,b,d,e,f,g] h [Zc (Sr c r K)]).F
def Sy:R:=(.mk:Sg 0x1202376561024598761001222e513e01e2d7020ce702e2101465 [a,b,d] h [c 12,cl6 (Hw c r K)] [] [] [(.int .i64 60)]).F
def O3:R:=(.mk:Sg 0x147631040232820fe001209e9 [a,b,d] h [c 11,Lz (Sy c r K)]).F
abbrev Nj(K:Nat)(c:Ah):Ah:=(w1 32 (Jr K) (w1 16 (C0 K) (w2 31 (Gp K) (w2 26 (H5 K) (w1 24 (Da K) (w2 25 (C9 K) c))))))
end
variable{d:Nat}(H:Bj disp)
include H
theorem Ase(hd:1<=d):R1 disp K d 32 (Jr K):=fun _=>rl H hd
theorem Av1(hd:2<=d):S2 disp K d 35 Arn:=fun _ _=>rd rfl rfl H (V2 (Acq H) hd<|rfl)
omit H in
theorem Adr(c r:Ah)(K:Nat)(m:Nat):lpB false (Nj K c) c r K 8 1663 [(2,fun k tm h ds=>Hv c r K (k 2) (k 7) (k 8) (k 11) h)] m=(fun m k tm h ds=>Dl c r K m (k 2) (k 7) (k 8) (k 11) (k 63) (k 64) h) m:=
 Lp (E:=fun m k tm h ds=>Dl c r K m (k 2) (k 7) (k 8) (k 11) (k 63) (k 64) h) rfl (fun m=>Avq fun k tm h ds=>by kernel_rfl) m
omit H in
theorem Adq(c r:Ah)(K:Nat)(m:Nat):lpB false (Nj K c) c r K 8 415 [(0,fun k tm h ds=>Hs c r K (k 2) (k 3) (k 7) (k 8) h)] m=(fun m k tm h ds=>Dn c r K m (k 2) (k 3) (k 7) (k 8) (k 35) (k 36) (k 37) h) m:=
 Lp (E:=fun m k tm h ds=>Dn c r K m (k 2) (k 3) (k 7) (k 8) (k 35) (k 36) (k 37) h) rfl (fun m=>Avq fun k tm h ds=>by kernel_rfl) m
theorem Aft(hd:3<=d):S3 disp K d 8 O3:=fun _ _ _=>rm (q:=false) (D:=Nj K (Ae TT disp K d false)) (by kernel_rfl) rfl rfl H (V1 (Ase H) hd<|V1 (Py H) hd<|V2 (Ix H) hd<|V2 (Vq H) hd<|V1 (Es H) hd<|V2 (Jd H) hd<|rfl) (cut [true,true,true,true,true,true,true,false,true,false] (Adr (Ae TT disp K d false) (Ae TT disp K d true) K K) (by kernel_rfl) (by kernel_rfl) (cut [true,true,true,true,true,false,true,false] (Adq (Ae TT disp K d false) (Ae TT disp K d true) K K) (by kernel_rfl) (by kernel_rfl) rfl))
end
end
def nR(X:Co):List Int:=[X.gen,X.ep,X.nx]
theorem Bv3:TT.size 69=some 3/\TT.agg 69=some true:=⟨by kernel_rfl,by kernel_rfl⟩
theorem A0w(C:Cz h B X F):Ok (Jr K (.ptr B.c 0) h) fun v h'=>v=.agg ((nR X).map I)/\Ext h h':=by
 simp only[Jr,Aa];have k:Ext h (h.new (.cells [.int .i64 0,.int .i64 0,.int .i64 0] 69)):=Av.new _ _;have m:(h.new (.cells [.int .i64 0,.int .i64 0,.int .i64 0] 69)).get h.next=some (.cells [.int .i64 0,.int .i64 0,.int .i64 0] 69):=Ad _ _
 have D:(h.new (.cells [.int .i64 0,.int .i64 0,.int .i64 0] 69)).next=h.next+1:=rfl
 generalize h.new (.cells [.int .i64 0,.int .i64 0,.int .i64 0] 69)=E at k m D⊢;rw[Bp (k.at C.hb C.core) rfl (l':=(nR X).map I) rfl];refine Ok.stW m rfl rfl ?_;rw[Yr (Af _ _ _) Bv3.1 Bv3.2 rfl];exact .ret ⟨rfl,k.Ar (.inr (aE _)) (by omega) _⟩
theorem Bq2(A:Bj disp)(hK:10000<K)(C:Cz h B X F)(c:Cc X L mt)(T:1<=X.S.free)(U:X.nx<=281474976710655){d:Nat}(hd:24<=d)(j:Int):
 Ok (Ae TT disp K d false 35 [.ptr B.c 0,I j] h) fun v h'=>∃(e:Int) (Y:Co) (mt':Int->Int),v=I e/\Ej h h' B X F Y/\Cc Y L mt'/\Y.S.g=X.S.g /\
 ((¬(0<=j/\j<X.S.g.B)/\e=13/\Y=X)\/(0<=j/\j<X.S.g.B/\e=0/\∃x,X.es[j.toNat]? = some x/\((¬x.state=1/\Y=X)\/(x.state=1/\Y.nx=X.nx+1/\∃y,Y.es[j.toNat]? = some y/\y.state=1/\y.seq=X.nx/\y.sum=x.sum)))):=by
 obtain⟨e,rfl⟩:∃k,d=k+1:=⟨d-1,by omega⟩;rw[Av1 A (by omega)];simp only[Arn,Aa];refine Ok.An (A9x (K:=K) C j) ?_;rintro _ h2 ⟨rfl,V⟩;have c2:=C.toE V;have lb:=c.lb;have b0:=c.c.sm.b0;cases E:(decide (0<=j)&&decide (j<X.S.g.B))with
 | false=>
  simp only[Aa];refine .ret ⟨13,X,mt,rfl,c2,c,rfl,.inl ⟨fun y=>?_,rfl,rfl⟩⟩;rw[aM y.1,aM y.2]at E;cases E
 | true=>
  simp only[aR,aQ]at E;obtain⟨b,rfl⟩:=aY E.1;simp only[Aa,Akv];have G:b<X.es.length:=by omega
  have D:=aC G;generalize X.es[b]=x at D;by_cases J:x.state=1
  ·refine Ok.An (Bhn A hK c2.C c D J T U (d:=e) (by omega)) ?_
   rintro _ W ⟨rfl,Y,mt',c3,Z,m,y,ey,qy⟩;obtain⟨P,e1,e2,_,_,e5,_⟩:=m.mvd b x rfl D;have M:P=y:=by
    rw[ey,dD,aG rfl,aG G]at e1;cases e1;rfl
   subst M;exact .ret ⟨0,Y,mt',rfl,c2.trans c3,Z,m.g,.inr ⟨E.1,E.2,rfl,x,by rw[aZ];exact D,.inr ⟨J,m.nm.2.2.1,P,by rw[aZ];exact e1,e2,qy,e5⟩⟩⟩
  ·refine Ok.An (A67 A c2.C D J (d:=e) (by omega)) ?_
   rintro _ W ⟨rfl,c3⟩;exact .ret ⟨0,X,mt,rfl,c2.trans c3,c,rfl,.inr ⟨E.1,E.2,rfl,x,by rw[aZ];exact D,.inl ⟨J,rfl⟩⟩⟩
section
section
variable (A:Bj disp)(hK:3000000<K){d:Nat}(hd:31<=d){g:Gm}
include A hK hd
theorem Blf(W:∀h,Kf F h0 h->Q (.bool true) h){i:Nat}(hi:i<=70){q:Nat}(l:Lb F g h0 h B X L mt i v q):
 Ok (Ml (Ae TT disp K (d+1) false) (Ae TT disp K (d+1) true) K (I blk) (.ptr B.c 0) v h) Q:=by
 have ch:Cg (.tuple []) false=false/\Cg (.tuple []) true=false:=⟨rfl,rfl⟩;have gen:=l.w.gen;have nx:=l.w.nx;have s0:=l.w.j.c.c.sm.s0;have fr:=l.w.j.fr;have nm:=l.w.j.c.nm;simp only[Ml,C0,Aa];rw[l.C.ldB]
 try simp only[Aa]
 refine Ok.An (Qh (K:=K) l.C.sm l.C.map l.C.hb blk) ?_;rintro _ h2 ⟨rfl,x2⟩;have l2:=l.ext x2;simp only[Aa];refine Ok.mk rfl rfl fun h3 x3 g3 n3=>?_
 have l3:=l2.ext x3;refine(A0w (K:=K) l3.C).An ?_;rintro _ h4 ⟨rfl,x4⟩;have G:=l3.ext x4;rw[Aen (v:=I X.nx) rfl]
 try simp only[Aa]
 have g4:=x4.at l3.C.hb g3;have cv:=G.C.hb _ _ g4;have C4:Cz h4 B X (fun j=>(F j\/j=q)\/j=h2.next):=(l2.C.ext (x3.trans x4)).less fun j hj=>by
  rcases hj with hj|rfl
  ·exact .inl hj
  ·exact .inr ⟨aE _,by omega⟩
 refine(Bq2 (K:=K) A (by omega) C4 G.w.j.c (by omega) (by omega) (d:=d+1) (by omega) blk).An ?_;rintro _ h5 ⟨e,Y,mt',rfl,T,cy,gY,w5⟩;have g5:=T.k.at C4.hb g4 (.inr rfl);have b5:=G.b.frame (h':=h5) (T.k.get _ (G.b.lt G.C.hb) fun y=>y (.inl (.inr rfl)));have k5:=G.k.trans (T.less (F:=F) fun j hj=>.inl (.inl hj)).k;have E:=(T.less (F:=fun j=>F j\/j=q) fun j=>.inl).C;have lb:=l.w.j.c.lb;have bb:=l.w.j.c.c.sm.b0;have reads:∀{J:Ab},Ext h5 J->Ok (Ae TT disp K (d+1) false 28 [.ptr B.c 0,v] J) fun w h'=>w=.bool true/\Kf F h0 h':=fun {J} x=>by
  have U:=(E.toE x).C;refine(Bin (K:=K) A hK (d:=d) (by omega) (q:=q) (F:=fun j=>F j\/j=q) (.inr rfl) U cy (b5.frame (x.get _ (b5.lt E.hb) id))).mono ?_;rintro _ h7 ⟨rfl,Z,c7,_⟩;exact⟨rfl,(k5.trans (Ext.kf x)).trans (c7.less (F:=F) fun j=>.inl).k⟩
 simp only[I,Ac];rcases w5 with⟨no,rfl,rfl⟩|⟨b0,b1,rfl,x,hx,w⟩
 ·rw[A9j (by omega)]
  have M:¬(13:Int)=0:=by decide
  simp only[M,aN,aB,Aa,Ac];refine(reads (Av.refl _)).An ?_;rintro _ J ⟨rfl,k6⟩;simp only[Aa,Ac,T5];exact .ret (W _ k6)
 ·obtain⟨b,rfl⟩:=aY b0
  rw[aZ]at hx w;rw[Ait hx]at g5⊢;simp only[aD,aA,Aa,Ac,Ur,C0];rw[E.ldB]
  try simp only[Aa]
  refine Ok.An (Qh (K:=K) E.sm E.map E.hb (b:Int)) ?_;rintro _ J ⟨rfl,x6⟩;have U:=(E.toE x6).C;rcases w with⟨h1,rfl⟩|⟨h1,a6,y,hy,y1,ys,P⟩
  ·rw[Ait hx]
   simp only[Aa];refine Ok.mk rfl rfl fun h7 S V _=>?_
   have m:=x6.trans S;have D:=Ext.at m E.hb g5;have C7:=(U.toE S).C;rw[Al D rfl (v:=I x.state) rfl];simp only[I,Ac,h1,aN,aB,Aa];rw[Bp V rfl (Ai (n:=6) rfl),Bp D rfl (Ai (n:=6) rfl),Btq];simp only[aB,Aa,Ac];refine(A0w (K:=K) C7).An ?_;rintro _ h8 ⟨rfl,x8⟩;rw[Aen (v:=I Y.nx) rfl];simp only[I,Ac,aB,Aa,Ut];exact .ret (W _ (k5.trans (Ext.kf (m.trans x8))))
  ·rw[Ait hy]
   simp only[Aa];refine Ok.mk rfl rfl fun h7 S V _=>?_
   have m:=x6.trans S;have D:=Ext.at m E.hb g5;have C7:=(U.toE S).C;rw[Al D rfl (v:=I x.state) rfl];simp only[I,Ac,h1,aD,aA,Aa,Uw];rw[Al V rfl (v:=I y.seq) rfl];simp only[I,Ac,ys,aB,Aa];rw[Al V rfl (v:=I y.sum) rfl]
   try simp only[Aa]
   rw[Al D rfl (v:=I x.sum) rfl];simp only[I,Ac,P,aB,Aa,Uz];refine(A0w (K:=K) C7).An ?_;rintro _ h8 ⟨rfl,x8⟩;rw[Aen (v:=I Y.nx) rfl];simp only[I,Ac];rw[Cj,a6];simp only[aB,Aa,Ac,U1];refine(reads (m.trans x8)).An ?_;rintro _ h9 ⟨rfl,k9⟩;simp only[Aa,Ac,Uh];exact .ret (W _ k9)
end
end
section
def Co.todo(X:Co)(i:Nat):Bool:=decide (¬X.K5 (X.S.g.D*X.S.g.Z).toNat = -1)||X.An4 i
theorem Bd3:Idl X↔X.todo (X.S.g.D*X.S.g.Z).toNat=false:=by
 unfold Idl Co.todo;rw[fP,cY,Classical.not_not];exact⟨fun y=>⟨y.2,y.1⟩,fun y=>⟨y.2,y.1⟩⟩
section
variable (A:Bj disp)(hK:3000000<K){d:Nat}(hd:31<=d){g:Gm}
include A hK hd
theorem Be4(E:∀h,Kf F h0 h->Q (.bool true) h){i:Nat}(hi:i<=60){q:Nat}(l:Lb F g h0 h B X L mt i v q):
 Ok (Hv (Ae TT disp K (d+1) false) (Ae TT disp K (d+1) true) K (I blk) (.ptr B.c 0) v (.bool (X.todo (X.S.g.D*X.S.g.Z).toNat)) h) Q:=by
 have G:Cg (.tuple []) false=false/\Cg (.tuple []) true=false:=⟨rfl,rfl⟩;have gen:=l.w.gen;have nx:=l.w.nx;have fr:=l.w.j.fr;have s0:=l.w.j.c.c.sm.s0;simp only[Hv,Aa];refine(Bm2 (K:=K) A (by omega) l.C l.w.j.c l.w.j.sq (by omega) (by omega) (by omega) (d:=d+1) (by omega)).An ?_;rintro _ h2 ⟨b,Y,mt',rfl,c2,J,M,w⟩;have eb:b=X.todo (X.S.g.D*X.S.g.Z).toNat:=by
  rcases w with⟨rfl,_,id⟩|⟨rfl,id,_⟩
  ·exact(Bd3.1 id).symm
  ·cases P:X.todo (X.S.g.D*X.S.g.Z).toNat with
   | true=>rfl
   | false=>exact absurd (Bd3.2 P) id
 have t:Tdy X Y 1:=by
  rcases w with⟨_,rfl,_⟩|⟨_,_,t,_⟩
  ·exact(Tdy.refl _).more (by omega)
  ·exact t
 have tf:=t.free;have T:=t.g;have m:Lb F g h0 h2 B Y L mt' (i+1) v q:=⟨c2.C,l.w.step ⟨J,M,by rw[T];omega⟩ (t.more (by omega)).opd,l.b.frame (c2.k.get _ (l.b.lt l.C.hb) fun y=>y (.inr rfl)),l.k.trans (c2.less (F:=F) fun j=>.inl).k,l.n⟩;simp only[Aa,I,Ac,aD,aA];rw[Bcj,eb];simp only[aB,dR,Aa,Ac,T7];refine(Aus (K:=K) A hK (d:=d) (by omega) (q:=q) (F:=fun j=>F j\/j=q) (.inr rfl) m.C m.w.j m.b).An ?_;rintro _ U ⟨rfl,Z,c3,V,W,b3⟩;simp only[Aa,Ac,Ux];have l3:Lb F g h0 U B Z L mt' (i+1+1) v q:=⟨c3.C,m.w.step V W.opd,b3,m.k.trans (c3.less (F:=F) fun j=>.inl).k,m.n⟩;exact Blf A hK hd E (by omega) l3
theorem Bg5(T:∀h,Kf F h0 h->Q (.bool true) h){k:Nat}(U:k<=60){q n:Nat}(V:X.S.g.D*X.S.g.Z=n):∀(f i:Nat) (h:Ab),n-i<f->i<=n->Lb F g h0 h B X L mt k v q ->
 Ok (Dl (Ae TT disp K (d+1) false) (Ae TT disp K (d+1) true) K f (I blk) (.ptr B.c 0) v (.bool (X.todo i)) (I n) (I i) h) Q:=by
 intro f;induction f with
 | zero=>intro i h W;omega
 | succ f Y=>
  intro i h W hi l;have bd:=l.w.j.c.c.sm.Ag0;rw[Dl];have ah:Cg (.tuple []) false=false/\Cg (.tuple []) true=false:=⟨rfl,rfl⟩;simp only[I,Ac];by_cases al:i<n
  ·have:decide ((i:Int)<(n:Int))=true:=by simp;omega
   have E:X.todo (i+1)=(X.todo i||X.dead i):=by
    show(decide (¬X.K5 (X.S.g.D*X.S.g.Z).toNat = -1)||(X.An4 i||X.dead i))=((decide (¬X.K5 (X.S.g.D*X.S.g.Z).toNat = -1)||X.An4 i)||X.dead i);rw[Bool.or_assoc]
   have m:∀h',Lb F g h0 h' B X L mt k v q->Ok (Lh (Ae TT disp K (d+1) false) (Ae TT disp K (d+1) true) K (Dl (Ae TT disp K (d+1) false) (Ae TT disp K (d+1) true) K f) (.int .i64 blk) (.ptr B.c 0) v (.bool (X.todo (i+1))) (.int .i64 (n:Int)) (.int .i64 (i:Int)) h') Q:=fun h' l'=>by
    simp only[Lh,Ac];rw[Cj,show((i:Nat):Int)+1=((i+1:Nat):Int) by omega];exact Y (i+1) h' (by omega) (by omega) l'
   simp only[this,Aa,Sv];cases G:X.todo i with
   | true=>
    have e:X.todo (i+1)=true:=by rw[E,G];rfl
    rw[e]at m;simp only[Aa,Ac,Ht,Hq,Hy];exact m h l
   | false=>
    simp only[Aa,Ac];refine(Aa0 (K:=K) A (by omega) l.C (d:=d+1) (by omega) (z:=(i:Int)) ⟨by omega,by omega⟩).An ?_;rintro _ h2 ⟨rfl,J⟩;have c2:=l.C.rd J;have M:Lb F g h0 h2 B X L mt k v q:=⟨c2.C,l.w,l.b.frame (J.same (l.b.lt l.C.hb)),l.k.trans (c2.less (F:=F) fun j=>.inl).k,l.n⟩;have dz:X.dead i=(X.closed i&&decide (Ug X.S.g X.es i=0)):=rfl;cases P:X.closed i with
    | false=>
     have e:X.todo (i+1)=false:=by rw[E,G,dz,P];rfl
     rw[e]at m;simp only[Aa,Ac,Ht,Hq,Hy];exact m h2 M
    | true=>
     have e:X.todo (i+1)=decide (Ug X.S.g X.es i=0):=by rw[E,G,dz,P];rfl
     rw[e]at m;simp only[Aa,Ac,Ht,C0];rw[c2.C.ldB]
     try simp only[Aa]
     have ml:=Abo (K:=K) c2.C.map (i:Int);simp only[I]at ml;rw[ml,As];simp only[I,Ac,Aa,Hq,Hy];exact m h2 M
  ·have:decide ((i:Int)<(n:Int))=false:=by simp;omega
   have ei:i=n:=by omega
   subst ei;simp only[this,Aa];have:=Be4 (blk:=blk) A hK hd T U l;rw[V,aZ]at this;exact this
theorem Bf2(hb0:HB h0)(f3:F a3)(ga3:h0.get a3=some (.cells (gL g) 23))(J:∀h,Kf F h0 h->Q (.bool true) h){i:Nat}(M:i<=60){q:Nat}(l:Lb F g h0 h B X L mt i v q):
 Ok (Hs (Ae TT disp K (d+1) false) (Ae TT disp K (d+1) true) K (I blk) (.ptr a3 0) (.ptr B.c 0) v h) Q:=by
 have s:Sm g:=by rw[<-l.w.gg];exact l.w.j.c.c.sm
 have bd:=s.Ag0;simp only[Hs,Aa];refine(A7x (K:=K) A (by omega) l.C (d:=d+1) (by omega)).An ?_;rintro _ h2 ⟨rfl,m⟩;have c2:=l.C.rd m;have E:Lb F g h0 h2 B X L mt i v q:=⟨c2.C,l.w,l.b.frame (m.same (l.b.lt l.C.hb)),l.k.trans (c2.less (F:=F) fun j=>.inl).k,l.n⟩;simp only[I,Ac];rw[Bp (Kf.at E.k hb0 ga3 f3) rfl (Ai (n:=6) rfl)];rw[show EV.agg (gL g)=gV g from rfl,Lo s,As];obtain⟨n,G⟩:=aY (show 0<=g.D*g.Z by omega);have P:=E.ext (show Ext h2 (h2.new (.cells (gL g) 23))from Av.new _ _);have e0:X.todo 0=decide (¬X.K5 (X.S.g.D*X.S.g.Z).toNat = -1):=by
  show(decide (¬X.K5 (X.S.g.D*X.S.g.Z).toNat = -1)||false)=_;rw[Bool.or_false]
 have:=Bg5 (blk:=blk) (K:=K) A hK hd J M (n:=n) (by rw[l.w.gg];exact G) K 0 _ (by omega) (by omega) P;rw[e0]at this;rw[G];exact this
end
end
section
section
variable (A:Bj disp)(hK:3000000<K){d:Nat}(hd:31<=d){N b:Nat}{g:Gm}(lF:∀i,i<N->F i)(l0:N<=h0.next)(hb0:HB h0)(f3:F a3)(ga3:h0.get a3=some (.cells (gL g) 23))(R0:So h0 N v1 b O)(hL:O.length<=60)
include A hK hd lF l0 hb0 f3 ga3 R0 hL
theorem Bbs(Z:∀h,Kf F h0 h->Q (.bool true) h):∀(f i:Nat) (h:Ab) (X:Co) (L:List (List Nat)) (mt:Int->Int) (v:EV) (q:Nat),O.length-i<f->i<=O.length->Lb F g h0 h B X L mt i v q ->
 Ok (Dn (Ae TT disp K (d+1) false) (Ae TT disp K (d+1) true) K f (I blk) (.ptr a3 0) (.ptr B.c 0) v v1 (I O.length) (I i) h) Q:=by
 intro f;induction f with
 | zero=>intro i h X L mt v q hf;omega
 | succ f ih=>
  intro i h X L mt v q hf hi l;rw[Dn];simp only[I,Ac];have a0:Cg (.tuple []) false=false/\Cg (.tuple []) true=false:=⟨rfl,rfl⟩;by_cases G:i<O.length
  ·have:decide ((i:Int)<(O.length:Int))=true:=by simp;omega
   have V:=R0.frame (h':=h) fun j hj=>l.k.get j (by omega) fun y=>y (lF j hj)
   simp only[this,Aa,Su];refine Au8 V G fun h2 T P n2=>?_
   obtain⟨oa,ob,U,W⟩:=V.Qu _ (av G);generalize O[i]=o at oa ob U W P;have ol:=H0.len oa.ev;have m:=l.ext T;have J:∀k:EV->R,Fm (.ptr h.next 0) h2 k=k (I o.kind):=fun k=>(Aaa P k).1
   have o2:o.At h2:=⟨oa.row.frame fun y=>by
    have l3:=l.C.M.lt _ (.inl (.inl (lF _ (ob y))));rw[T.get _ l3 id],oa.ev,oa.pl⟩
   have cp:Cz h2 B X (fun j=>(F j\/j=q)\/j=h.next):=(l.C.ext T).less fun j hj=>by
    rcases hj with hj|rfl
    ·exact .inl hj
    ·exact .inr ⟨aE _,by omega⟩
   have D:∀h' Y L' mt' S q',Lb F g h0 h' B Y L' mt' (i+1) S q'->Ok (Lj (Ae TT disp K (d+1) false) (Ae TT disp K (d+1) true) K (Dn (Ae TT disp K (d+1) false) (Ae TT disp K (d+1) true) K f) (.int .i64 blk) (.ptr a3 0) (.ptr B.c 0) S v1 (.int .i64 (O.length:Int)) (.int .i64 (i:Int)) h') Q:=fun h' Y L' mt' S q' l'=>by
    simp only[Lj,Ac];rw[Cj,show((i:Nat):Int)+1=((i+1:Nat):Int) by omega];exact ih (i+1) h' Y L' mt' S q' (by omega) (by omega) l'
   rw[J];simp only[I,Ac];by_cases k1:1<=o.kind
   case neg=>
    simp only[k1,aA,Aa,Ac,Hr,Fv];exact D h2 X L mt v q ⟨m.C,m.w.more,m.b,m.k,m.n⟩
   simp only[k1,aB,Aa,Ac];rw[J];simp only[I,Ac];by_cases k2:o.kind<=2
   case neg=>
    simp only[k2,aA,Aa,Ac,Hr,Fv];exact D h2 X L mt v q ⟨m.C,m.w.more,m.b,m.k,m.n⟩
   simp only[k2,aB,Aa,Ac,Hr];rw[Bp P rfl (Ai ol)];refine(A3g (K:=K) A hK (d:=d+1) (by omega) (N:=N) lF (by omega) m P o2 ob U W (by omega) cp).An ?_;rintro _ h3 ⟨e,Y,L',mt',rfl,z,g3,o3,di⟩;simp only[I,Ac];by_cases E:e=0
   ·simp only[E,aB,Aa,Ac,Fv]
    rw[Bp g3 rfl (Ai ol)];refine(Aqk (K:=K) hK (N:=N) lF z l.w.gg (l.w.len z.2.1) o3 ob U di E).An ?_;rintro w h4 ⟨q',l4⟩;exact D h4 Y L' mt' w q' l4
   ·simp only[E,aA,Aa,Ac,Fv]
    exact D h3 Y L' mt' v q (Au6 z di E l.n)
  ·have:decide ((i:Int)<(O.length:Int))=false:=by simp;omega
   simp only[this,Aa];exact Bf2 A hK hd hb0 f3 ga3 Z (by omega) l
end
end
theorem Bfo(A:Bj disp)(hK:3000000<K){d:Nat}(hd:31<=d)(S:∀h,Ae TT disp K (d+1) false 11 [] h=some (.bool true,h))(g:Gm)(hb:HB h){b:Nat}(blk:Int)(R0:So h h.next v1 b O):
 Ok (O3 (Ae TT disp K (d+1) false) (Ae TT disp K (d+1) true) K (gV g) v1 (I blk) h) fun v h'=>v=.bool true/\∀i,i<h.next->h'.get i=h.get i:=by
 simp only[O3,gV,Aa,S];obtain⟨m,e_,T,V,n1⟩:=nW h (.cells (gL g) 23);rw[e_];have C:=T.hb hb;simp only[Sy,Aa];rw[Db V rfl,Ai (n:=6) rfl]
 try simp only[Aa]
 rw[show EV.agg (gL g)=gV g from rfl];refine(Yz (K:=K) A (by omega) (d:=d+1) (by omega) g C).An ?_;rintro v h2 ⟨k2,U,J⟩;have R2:So h2 h.next v1 b O:=R0.frame fun i M=>by rw[k2.get i (by omega) fun y=>y (show i<m.next by omega),T.get i M id]
 have E:=k2.at C V (show h.next<m.next by omega);have al:Cg (.tuple []) false=false/\Cg (.tuple []) true=false:=⟨rfl,rfl⟩;have t2:=k2.next
 have Gx:∀(F:Nat->Prop) (h':Ab),(∀i,i<m.next->F i)->Kf F h2 h'->∀i,i<h.next->h'.get i=h.get i:=fun F h' hF k i M=>by
  rw[k.get i (by omega) fun y=>y (hF i (by omega)),k2.get i (by omega) fun y=>y (show i<m.next by omega),T.get i M id]
 by_cases P:rtB g=true/\g.D*g.Z<=64
 case neg=>
  rw[aF P]at J;subst J;rw[Ai6];simp only[Aa,Ac,Hw];exact .ret ⟨rfl,Gx (fun _=>True) h2 (fun _ _=>trivial) (Av.refl _)⟩
 rw[aG P]at J;obtain⟨B,rfl,C2,lB⟩:=J;rw[Aoy];simp only[Aa,Ac];rw[R2.F3];simp only[I,Ac];by_cases G:60<(O.length:Int)
 ·simp only[G,aB,Aa,Ac,Hw]
  exact .ret ⟨rfl,Gx (fun _=>True) h2 (fun _ _=>trivial) (Av.refl _)⟩
 simp only[G,aA,Aa,Ac,Hw,Sr];rw[Al E rfl (v:=.int .i64 g.B) rfl];obtain⟨W,v3,em,b3,Y,n3⟩:=A3n (Nw P.1) h2;rw[em,As,R2.F3];have R3:So h2 h.next v1 b O:=R2
 have l3:Lb (fun i=>i<m.next) g h2 W B (Co.start g) (Tq g) (fun _=>-1) 0 v3 h2.next:=⟨(C2.ext Y).less fun j hj=>by
  rcases hj with hj|rfl
  ·exact .inl hj
  ·exact .inr ⟨aE _,by omega⟩,LwI.start P.1,b3,Ext.kf Y,aE _⟩
 exact Bbs (K:=K) (Q:=fun v h'=>v=.bool true/\∀i,i<h.next->h'.get i=h.get i) A hK hd (F:=fun i=>i<m.next) (N:=h.next) (fun i M=>by show i<m.next;omega) (by omega) U (show h.next<m.next by omega) E R3 (by omega) (fun h' k=>⟨rfl,Gx _ h' (fun _ y=>y) k⟩) K 0 W _ _ _ _ _ (by omega) (by omega) l3
end Go.Ev
