import Derived.Test.YtadnemjjlacolaaGreatLb
import Derived.Test.YtadnemjjlacolaaGreatNe
import Derived.Test.YtadnemjjlacolaaGreatDc
set_option linter.all false
namespace Go.Ev
open Go.Proofs
set_option maxRecDepth 100000
set_option maxHeartbeats 4000000
variable {h h0:Ab}{L:List (List Nat)}{v1:EV}{O:List H0}{disp:Nat->Option FT}{K:Nat}{B:Cb}{F:Nat->Prop}{Q:EV->Ab->Prop}
section
noncomputable section
section
variable (c r:Ah)(K l:Nat)(k0:A0)(k1:A1)(k2:A2)(k3:A3)(k4:A4)(k5:A5)(k6:A6)(k7:A7)(k8:A8)(k9:A9)(k10:A10)(k11:A11)(k12:A12)(m0:B0)(m1:B1)(m2:B2)(m3:B3)(m4:B4)(m5:B5)(m6:B6)(m7:B7)(m8:B8)(m9:B9)(m10:B10)(m11:B11)(m12:B12)(base:Nat)(s:DX)(tm:Ax)(a b d e f g i j n o p q t u w x y z aa ab ad ae af ag ai aj an ao ap aq au aw ax ay az ba bb bd be bf bg bi bj bn bo bp bq bt bu bw bx bz da db dd de df dg di dj dn dp dq dt du dw dx dy dz ea eb ed ee ef eg ei ej en eo ep eq et eu ew ex ey ez fa fb fd fe ff fg fi fj fn fo fp fq ft fu fw fx fy fz ga gb gd ge gf gg gi gj gn go gp gq gt gu gw gx gy gz ia ib ie ig ii ij io ip iq it iu iw ix iy iz ja jb:EV)(h:Ab)(ds:List Nat)
def Uo:Ru K (Ru r (Ru c R)):=
 pkA a b fun d=>
 some (d,h)
def T1:R:=(.mk:Sg 0x12022102321043201a2a540be [a,b,d,e] h [c 28,D5 (Uo c r K)]).F
def T9:R:=(.mk:Sg 0x120254420258742000224e42211410106e2a650be [a,b,d,e,f] h [Ey (C0 K),D5 (H5 K),Zc (T1 c r K)]).F
def Uj:R:=(.mk:Sg 0x1202543520258765202823e42211410106e2a760be [a,b,d,e,f,g] h [Ey (C0 K),D5 (H5 K),cl5 (T9 c r K)]).F
def T3:R:=(.mk:Sg 0x12026543630259876630522212111410108e2a760be [a,b,d,e,f,g] h [Ey (Fh K),Ey (Ce K),c 29,cl6 (Uj c r K)]).F
def Uc:R:=(.mk:Sg 0x1202654361024876561020fe3420102e2a00615e702e [a,b,d,e,f] h [c 19,cl6 (T3 c r K)]).F
def Ue:Ru K (Ru r (Ru c R)):=
 pkA a b fun d=>
 some (d,h)
def Mn:R:=(.mk:Sg 0x13498756020225023250a9241a2a03e0315e702e0be2850fe5623142221411123201 [a,b,d] h [c 19,Ey (C0 K),D5 (H5 K),c 27,c 28,D5 (Ue c r K),cl5 (Uc c r K)]).F
def Mj:Ru K (Ru r (Ru c R)):=
 Iz g fun i=>
 k6 a b d e f i h
def Ft:R:=(.mk:Sg 0x1987543610ba92656106220163ae503e28a90be [a,b,d,e,f,g,i,j,n] h [D5 (C9 K),cl6 (Mj c r K k6)]).F
def Hz:R:=(.mk:Sg 0x1202987654391025cba987691000215e702e5220163ae50ce2aa90be [a,b,d,e,f,g,i,j,n] h [c 13,cl9 (Ft c r K k6)]).F
def Sz:R:=(.mk:Sg 0x1202cba49879002400edc6ba990010223e40405e2a30221e204214e03ae06e23ae5753ae15e [a,b,d,e,f,g] h [cl9 (Hz c r K k6)] [] [List.replicate 3 (.int .i64 0)++[.Ao]++List.replicate 4 (.int .i64 0)++List.replicate 64 (.int .u8 0)]).F
def Eg(c:Ah)(r:Ah)(K:Nat):Nat->A6
 | 0=>fun _ _ _ _ _ _ _=>none
 | m+1=>fun a b d e f g h=>
  cE Iq .lss 3 g f
  (Sz c r K (Eg c r K m) a b d e f g h)
  (Mn c r K a b d h)
def Sw:R:=(.mk:Sg 0x10025386610413e22201434 [a,b,d,e] h [D5 (Mp (List.replicate 32 (.int .u8 0)) 49),cl6 (Eg c r K K)]).F
def Hx:R:=(.mk:Sg 0x165434005023287609e [a,b,d,e,f,g] h [Zc (Sw c r K)]).F
def Sp:R:=(.mk:Sg 0x1202376561024598761001222e513e01e2d7020ce702e2101465 [a,b,d] h [c 12,cl6 (Hx c r K)] [] [] [(.int .i64 60)]).F
def O4:R:=(.mk:Sg 0x147631040232820fe001209e9 [a,b,d] h [c 11,Lz (Sp c r K)]).F
end
variable{d:Nat}(H:Bj disp)
include H
theorem Afz(hd:3<=d):S3 disp K d 5 O4:=fun _ _ _=>ld rfl rfl H (V1 (Py H) hd<|V2 (Vq H) hd<|V1 (Ln H) hd<|V1 (Fx H) hd<|V2 (Jd H) hd<|rfl) 415 (fun c r=>e6 (Eg c r K) 2 7 8 28 29 30)
end
end
section
theorem Cln.live {X Y:Co}{z:Int}{n:Nat}(k:Cln X Y z n):La Y.es z=0:=A05 fun y C D=>by
 obtain⟨b,hb⟩:=cK.1 C;have E:b<X.es.length:=by rw[<-k.len];exact(aW.1 hb).1
 have m:=aC E;cases v:inB z X.es[b]with
 | true=>
  obtain⟨J,e,_,_,G,h4⟩:=k.mvd b _ v m;rw[hb]at e;cases e;exact⟨G,h4⟩
 | false=>
  have:=k.Gx b _ v m;rw[hb]at this;cases this;exact Bjv v D
section
variable (A:Bj disp)(hK:3000000<K){d:Nat}(hd:31<=d){N b:Nat}{g:Gm}{z:Int}(lF:∀i,i<N->F i)(l0:N<=h0.next)(hb0:HB h0)(R0:So h0 N v1 b O)(hL:O.length<=60)
include A hK hd
theorem Blt(kk:∀h,Kf F h0 h->Q (.bool true) h){X:Co}{mt:Int->Int}{i:Nat}(hi:i<=60){v:EV}{q:Nat}(l:Lb F g h0 h B X L mt i v q)(P:Rng z):
 Ok (Mn (Ae TT disp K (d+1) false) (Ae TT disp K (d+1) true) K (I z) (.ptr B.c 0) v h) Q:=by
 have a6:Cg (.tuple []) false=false/\Cg (.tuple []) true=false:=⟨rfl,rfl⟩;have gen:=l.w.gen;have nx:=l.w.nx;have s0:=l.w.j.c.c.sm.s0;have s1:=l.w.j.c.c.sm.s1;simp only[Mn,C0,Aa];refine(Aa0 (K:=K) A (by omega) l.C (d:=d+1) (by omega) P).An ?_;rintro _ h2 ⟨rfl,r2⟩;have c2:=l.C.rd r2;rw[c2.C.ldB]
 try simp only[Aa]
 rw[Abo c2.C.map,As];have lq:=l.b.lt l.C.hb;have b2:=l.b.frame (h':=h2) (r2.same lq);have k2:=l.k.trans (c2.less (F:=F) fun j=>.inl).k;have done:∀{E:Ab} {Y:Co} {mt':Int->Int},Cz E B Y (fun j=>F j\/j=q)->Jc Y L mt'->Bk E v q L->Kf F h0 E->Ok (Ae TT disp K (d+1) false 28 [.ptr B.c 0,v] E) fun w h'=>w=.bool true/\Kf F h0 h':=fun C J bk kf=>by
  refine(Aus (K:=K) A hK (d:=d) (by omega) (q:=q) (F:=fun j=>F j\/j=q) (.inr rfl) C J bk).mono ?_;rintro _ h4 ⟨rfl,Z,c3,_⟩;exact⟨rfl,kf.trans (c3.less (F:=F) fun j=>.inl).k⟩
 cases U:X.closed z with
 | false=>
  refine(Bbu (K:=K) A (by omega) c2.C (d:=d+1) (by omega) U P).An ?_;rintro _ E ⟨rfl,c3⟩;have b3:=b2.frame (h':=E) (c3.k.get _ (b2.lt c2.hb) fun y=>y (.inr rfl));simp only[I,Ac,Aa,aB];refine(done c3.C l.w.j b3 (k2.trans (c3.less (F:=F) fun j=>.inl).k)).An ?_;rintro _ h4 ⟨rfl,k4⟩;simp only[Aa,Ac,Ue];exact .ret (kk _ k4)
 | true=>
  have m:=l.w.j.c.Bu1 l.w.j.sq z;have fr:=l.w.j.fr;refine(A5g (K:=K) A (by omega) c2.C l.w.j.c l.w.j.sq (d:=d+1) (by omega) U P (by omega) (by omega) (by omega)).An ?_;rintro _ E ⟨rfl,Y,mt',c3,cy,sy,k⟩;obtain⟨j3,_⟩:=l.w.j.cln cy sy k;have b3:=b2.frame (h':=E) (c3.k.get _ (b2.lt c2.hb) fun y=>y (.inr rfl));have k3:=k2.trans (c3.less (F:=F) fun j=>.inl).k;simp only[I,Ac,Aa,Uc,aB];refine(Aa0 (K:=K) A (by omega) c3.C (d:=d+1) (by omega) P).An ?_;rintro _ h4 ⟨rfl,r4⟩;have c4:=c3.C.rd r4;have b4:=b3.frame (h':=h4) (r4.same (b3.lt c3.hb));have k4:=k3.trans (c4.less (F:=F) fun j=>.inl).k;rw[k.cl];simp only[Aa,Ac,T3,Fh];rw[c4.C.ldM]
  try simp only[Aa]
  refine Bbn (K:=K) A (by omega) c4.C.M c4.hb (d:=d+1) (by omega) z fun h5 T k5 t5 V=>?_
  have r5:Qt (fun j=>F j\/j=q) h4 h5:=⟨⟨T,k5,fun i hi y=>t5 i hi (.inl y)⟩,V⟩;have G:=c4.C.rd r5;have b5:=b4.frame (h':=h5) (r5.same (b4.lt c4.hb));have W:=k4.trans (G.less (F:=F) fun j=>.inl).k;have hh:hasB Y.S.ps Y.S.g.D.toNat z=true:=by
   have cf:=(Ff.1 U).1;refine J9.2 ⟨(Bu X.S.g z).toNat,?_,k.fr⟩;rw[k.g];rcases Ko l.w.j.c.c.sm z with y|⟨_,y,_⟩<;>omega
  rw[hh];have lv:Ug Y.S.g Y.es z=0:=by unfold Ug;rw[k.live,ite_self]
  have lx:0<=Ug X.S.g X.es z:=by
   unfold Ug;split
   ·exact(Akx z X.es).1
   ·exact cb _
  simp only[Aa,Ac,Uj,C0];rw[G.C.ldB]
  try simp only[Aa]
  have ml:=Abo (K:=K) G.C.map z;simp only[I]at ml;rw[ml,As,lv];simp only[I,Ac,aM (show(0:Int)<=Ug X.S.g X.es z from lx),Aa,T9,C0];rw[G.C.ldB]
  try simp only[Aa]
  rw[ml,As,lv];simp only[I,Ac,aB,Aa,T1];refine(done G.C j3 b5 W).An ?_;rintro _ h6 ⟨rfl,k6⟩;simp only[Aa,Ac,Uo];exact .ret (kk _ k6)
end
end
section
section
variable (A:Bj disp)(hK:3000000<K){d:Nat}(hd:31<=d){N b:Nat}{g:Gm}{z:Int}(lF:∀i,i<N->F i)(l0:N<=h0.next)(hb0:HB h0)(R0:So h0 N v1 b O)(hL:O.length<=60)
include A hK hd lF l0 R0 hL
theorem Bcz(Z:∀h,Kf F h0 h->Q (.bool true) h)(rz:Rng z):∀(f i:Nat) (h:Ab) (X:Co) (L:List (List Nat)) (mt:Int->Int) (v:EV) (q:Nat),O.length-i<f->i<=O.length->Lb F g h0 h B X L mt i v q ->
 Ok (Eg (Ae TT disp K (d+1) false) (Ae TT disp K (d+1) true) K f (I z) (.ptr B.c 0) v v1 (I O.length) (I i) h) Q:=by
 intro f;induction f with
 | zero=>intro i h X L mt v q hf;omega
 | succ f ih=>
  intro i h X L mt v q hf hi l;rw[Eg];simp only[I,Ac];have a1:Cg (.tuple []) false=false/\Cg (.tuple []) true=false:=⟨rfl,rfl⟩;by_cases G:i<O.length
  ·have:decide ((i:Int)<(O.length:Int))=true:=by simp;omega
   have V:=R0.frame (h':=h) fun j hj=>l.k.get j (by omega) fun y=>y (lF j hj)
   simp only[this,Aa,Sz];refine Au8 V G fun h2 T P n2=>?_
   obtain⟨oa,ob,U,W⟩:=V.Qu _ (av G);generalize O[i]=o at oa ob U W P;have ol:=H0.len oa.ev;have m:=l.ext T;have J:∀k:EV->R,Fm (.ptr h.next 0) h2 k=k (I o.kind):=fun k=>(Aaa P k).1
   have o2:o.At h2:=⟨oa.row.frame fun y=>by
    have l3:=l.C.M.lt _ (.inl (.inl (lF _ (ob y))));rw[T.get _ l3 id],oa.ev,oa.pl⟩
   have cp:Cz h2 B X (fun j=>(F j\/j=q)\/j=h.next):=(l.C.ext T).less fun j hj=>by
    rcases hj with hj|rfl
    ·exact .inl hj
    ·exact .inr ⟨aE _,by omega⟩
   have D:∀h' Y L' mt' S q',Lb F g h0 h' B Y L' mt' (i+1) S q'->Ok (Mj (Ae TT disp K (d+1) false) (Ae TT disp K (d+1) true) K (Eg (Ae TT disp K (d+1) false) (Ae TT disp K (d+1) true) K f) (.int .i64 z) (.ptr B.c 0) S v1 (.int .i64 (O.length:Int)) (.int .i64 (i:Int)) h') Q:=fun h' Y L' mt' S q' l'=>by
    simp only[Mj,Ac];rw[Cj,show((i:Nat):Int)+1=((i+1:Nat):Int) by omega];exact ih (i+1) h' Y L' mt' S q' (by omega) (by omega) l'
   rw[J];simp only[I,Ac];by_cases k2:o.kind<=2
   case neg=>
    simp only[k2,aA,Aa,Ac,Hz,Ft];exact D h2 X L mt v q ⟨m.C,m.w.more,m.b,m.k,m.n⟩
   simp only[k2,aB,Aa,Ac];rw[J];simp only[I,Ac];by_cases k1:1<=o.kind
   case neg=>
    simp only[k1,aA,Aa,Ac,Hz,Ft];exact D h2 X L mt v q ⟨m.C,m.w.more,m.b,m.k,m.n⟩
   simp only[k1,aB,Aa,Ac,Hz];rw[Bp P rfl (Ai ol)];refine(A3g (K:=K) A hK (d:=d+1) (by omega) (N:=N) lF (by omega) m P o2 ob U W (by omega) cp).An ?_;rintro _ h3 ⟨e,Y,L',mt',rfl,z,g3,o3,di⟩;simp only[I,Ac];by_cases E:e=0
   ·simp only[E,aB,Aa,Ac,Ft]
    rw[Bp g3 rfl (Ai ol)];refine(Aqk (K:=K) hK (N:=N) lF z l.w.gg (l.w.len z.2.1) o3 ob U di E).An ?_;rintro w h4 ⟨q',l4⟩;exact D h4 Y L' mt' w q' l4
   ·simp only[E,aA,Aa,Ac,Ft]
    exact D h3 Y L' mt' v q (Au6 z di E l.n)
  ·have:decide ((i:Int)<(O.length:Int))=false:=by simp;omega
   simp only[this,Aa];exact Blt A hK hd Z (by omega) l rz
end
end
theorem Bht(A:Bj disp)(hK:3000000<K){d:Nat}(hd:31<=d)(P:∀h,Ae TT disp K (d+1) false 11 [] h=some (.bool true,h))(g:Gm)(hb:HB h){b:Nat}(z:Int)(X:Rng z)(R0:So h h.next v1 b O):
 Ok (O4 (Ae TT disp K (d+1) false) (Ae TT disp K (d+1) true) K (gV g) v1 (I z) h) fun v h'=>v=.bool true/\∀i,i<h.next->h'.get i=h.get i:=by
 simp only[O4,gV,Aa,P];obtain⟨m,Y,S,U,n1⟩:=nW h (.cells (gL g) 23);rw[Y];have C:=S.hb hb;simp only[Sp,Aa];rw[Db U rfl,Ai (n:=6) rfl]
 try simp only[Aa]
 rw[show EV.agg (gL g)=gV g from rfl];refine(Yz (K:=K) A (by omega) (d:=d+1) (by omega) g C).An ?_;rintro v h2 ⟨k2,ah,G⟩;have R2:So h2 h.next v1 b O:=R0.frame fun i J=>by rw[k2.get i (by omega) fun y=>y (show i<m.next by omega),S.get i J id]
 have T:=k2.at C U (show h.next<m.next by omega);have al:Cg (.tuple []) false=false/\Cg (.tuple []) true=false:=⟨rfl,rfl⟩;have t2:=k2.next
 have Gx:∀(F:Nat->Prop) (h':Ab),(∀i,i<m.next->F i)->Kf F h2 h'->∀i,i<h.next->h'.get i=h.get i:=fun F h' hF k i J=>by
  rw[k.get i (by omega) fun y=>y (hF i (by omega)),k2.get i (by omega) fun y=>y (show i<m.next by omega),S.get i J id]
 by_cases M:rtB g=true/\g.D*g.Z<=64
 case neg=>
  rw[aF M]at G;subst G;rw[Ai6];simp only[Aa,Ac,Hx];exact .ret ⟨rfl,Gx (fun _=>True) h2 (fun _ _=>trivial) (Av.refl _)⟩
 rw[aG M]at G;obtain⟨B,rfl,C2,lB⟩:=G;rw[Aoy];simp only[Aa,Ac];rw[R2.F3];simp only[I,Ac];by_cases E:60<(O.length:Int)
 ·simp only[E,aB,Aa,Ac,Hx]
  exact .ret ⟨rfl,Gx (fun _=>True) h2 (fun _ _=>trivial) (Av.refl _)⟩
 simp only[E,aA,Aa,Ac,Hx,Sw];rw[Al T rfl (v:=.int .i64 g.B) rfl];obtain⟨V,v3,em,b3,W,n3⟩:=A3n (Nw M.1) h2;rw[em,As,R2.F3];have R3:So h2 h.next v1 b O:=R2
 have l3:Lb (fun i=>i<m.next) g h2 V B (Co.start g) (Tq g) (fun _=>-1) 0 v3 h2.next:=⟨(C2.ext W).less fun j hj=>by
  rcases hj with hj|rfl
  ·exact .inl hj
  ·exact .inr ⟨aE _,by omega⟩,LwI.start M.1,b3,Ext.kf W,aE _⟩
 exact Bcz (K:=K) (Q:=fun v h'=>v=.bool true/\∀i,i<h.next->h'.get i=h.get i) A hK hd (F:=fun i=>i<m.next) (N:=h.next) (fun i J=>by show i<m.next;omega) (by omega) R3 (by omega) (fun h' k=>⟨rfl,Gx _ h' (fun _ y=>y) k⟩) X K 0 V _ _ _ _ _ (by omega) (by omega) l3
end Go.Ev
