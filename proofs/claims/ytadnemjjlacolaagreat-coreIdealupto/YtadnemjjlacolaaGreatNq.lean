import Derived.Test.YtadnemjjlacolaaGreatLb
import Derived.Test.YtadnemjjlacolaaGreatNe
import Derived.Test.YtadnemjjlacolaaGreatDc
set_option linter.all false
namespace Go.Ev
open Go.Proofs
set_option maxRecDepth 100000
set_option maxHeartbeats 4000000
variable {h h0:Ab}{B:Cb}{X:Co}{F:Nat->Prop}{L:List (List Nat)}{mt:Int->Int}{v1:EV}{O:List H0}{disp:Nat->Option FT}{K:Nat}
section
noncomputable section
section
variable (c r:Ah)(K l:Nat)(k0:A0)(k1:A1)(k2:A2)(k3:A3)(k4:A4)(k5:A5)(k6:A6)(k7:A7)(k8:A8)(k9:A9)(k10:A10)(k11:A11)(k12:A12)(m0:B0)(m1:B1)(m2:B2)(m3:B3)(m4:B4)(m5:B5)(m6:B6)(m7:B7)(m8:B8)(m9:B9)(m10:B10)(m11:B11)(m12:B12)(base:Nat)(s:DX)(tm:Ax)(a b d e f g i j n o p q t u w x y z aa ab ad ae af ag ai aj an ao ap aq au aw ax ay az ba bb bd be bf bg bi bj bn bo bp bq bt bu bw bx bz da db dd de df dg di dj dn dp dq dt du dw dx dy dz ea eb ed ee ef eg ei ej en eo ep eq et eu ew ex ey ez fa fb fd fe ff fg fi fj fn fo fp fq ft fu fw fx fy fz ga gb gd ge gf gg gi gj gn go gp gq gt gu gw gx gy gz ia ib ie ig ii ij io ip iq it iu iw ix iy iz ja jb:EV)(h:Ab)(ds:List Nat)
def Abv:Ru K R:=(.mk:Sg 0x122263 [a] h).F
def Amv:Ru K R:=
 some (a,h)
def Ami:Ru K R:=
 Iz f fun g=>
 k5 a b d e g h
def Alz:R:=(.mk:Sg 0x1a9876500ba92750070aea623701e204221e0606e26564615e [a,b,d,e,f] h [cl5 (Ami K k5)] [] [[.int .i64 0,.int .i64 0,.int .i64 0,.int .i64 0,.int .i64 0,.int .i64 0]]).F
def Pm(K:Nat):Nat->A5
 | 0=>fun _ _ _ _ _ _=>none
 | m+1=>fun a b d e f h=>
  cE Iq .lss 3 f e
  (Alz K (Pm K m) a b d e f h)
  (Amv K b h)
def Adi:R:=(.mk:Sg 0x10023005500213e263 [a,b] h [cl5 (Pm K K)]).F
def X2:Ru K R:=
 pkA a b fun d=>
 some (d,h)
def Px:R:=(.mk:Sg 0x1202200242002620e334b2a00423e209e9 [a,b] h [D5 (X2 K)]).F
def N7:Ru K R:=
 pkA a b fun d=>
 some (d,h)
def X3:R:=(.mk:Sg 0x120220025200c0221e213e53400e2a10223e213e234 [a] h [D5 (N7 K)]).F
def Yk:Ru K R:=
 Iz f fun g=>
 k5 a b d e g h
def W9:R:=(.mk:Sg 0x1a987651040232820fe3220146564116e [a,b,d,e,f] h [D5 (Px K),cl5 (Yk K k5)]).F
def G6(K:Nat):Nat->A5
 | 0=>fun _ _ _ _ _ _=>none
 | m+1=>fun a b d e f h=>
  cE Iq .lss 3 f e
  (W9 K (G6 K m) a b d e f h)
  (X3 K a h)
def Xj:R:=(.mk:Sg 0x1002354500213e234 [a,b] h [cl5 (G6 K K)]).F
def J2:Ru K R:=
 pkA a b fun d=>
 some (d,h)
def Jl:R:=(.mk:Sg 0x1202200272002521e231ee51453432406e2a540be [a,b,d,e] h [D5 (J2 K)]).F
def I6:R:=(.mk:Sg 0x13422020267410248941010223e72400e2a2320151436516e3023701e304409e9214e9 [a,b] h [D5 (Px K),Zc (Jl K),D5 (Xj K)]).F
def Vy:Ru K (Ru r (Ru c R)):=
 pkA a b fun d=>
 some (d,h)
def Wh:R:=(.mk:Sg 0x12022202522000224e302211310105e2a430be [a,b,d] h [Ey (C0 K),D5 (Adi K),D5 (Vy c r K)]).F
def No:R:=(.mk:Sg 0x1202332024532020fe3111c2a32201 [a,b] h [c 28,Ey (Abv K),Lz (Wh c r K)]).F
def Gj:Ru K (Ru r (Ru c R)):=
 Iz g fun i=>
 k6 a b d e f i h
def Ny:R:=(.mk:Sg 0x1987432610ba92546105220153ae503e00615e701e [a,b,d,e,f,g,i,j] h [D5 (C9 K),cl6 (Gj c r K k6)]).F
def Nm:R:=
 pkO n o fun p=>
 ifE p
 (some ((.bool false),h))
 (Ny c r K k6 a b d e f g i j h)
def Ni:R:=(.mk:Sg 0x120a98765432a002ba9876543a00cb0be02ead [a,b,d,e,f,g,i,j,n,o,p] h [Bk7 (Nm c r K k6)]).F
def Gr:R:=(.mk:Sg 0x120ba98765432b002cba9876543b0003e0615e802e06eba [a,b,d,e,f,g,i,j,n,o] h [Bsw (Ni c r K k6)]).F
def Ja:R:=(.mk:Sg 0x1a9854362020201e00edcba98a102302e01e00edcba9a1000c15e802e05e2d234802e00a15e702e2320146563ae52ce28ba09e [a,b,d,e,f,g,i,j,n,o] h [D5 (I6 K),Bk7 (Gr c r K k6),cl6 (Gj c r K k6)]).F
def Uu:R:=(.mk:Sg 0x1202cba49876a102400edc6ba98a1030224e90406e2d10224e7044220153ae5 [a,b,d,e,f,g,i] h [c 13,Bk7 (Ja c r K k6)]).F
def Up:R:=(.mk:Sg 0x1ba93876710ba987660090123701e204214e03ae06e23ae5753ae15e [a,b,d,e,f,g] h [cl6 (Gj c r K k6),cl7 (Uu c r K k6)] [] [List.replicate 3 (.int .i64 0)++[.Ao]++List.replicate 4 (.int .i64 0)++List.replicate 64 (.int .u8 0)] [(.int .i64 9)]).F
def Cu(c:Ah)(r:Ah)(K:Nat):Nat->A6
 | 0=>fun _ _ _ _ _ _ _=>none
 | m+1=>fun a b d e f g h=>
  cE Iq .lss 3 g f
  (Up c r K (Cu c r K m) a b d e f g h)
  (No c r K b d h)
def U2:R:=(.mk:Sg 0x10025376610413e22201334 [a,b,d] h [D5 (Mp (List.replicate 32 (.int .u8 0)) 49),cl6 (Cu c r K K)]).F
def Ij:R:=(.mk:Sg 0x15433005023286509e [a,b,d,e,f] h [Lz (U2 c r K)]).F
def Tx:R:=(.mk:Sg 0x12023655102458751001222e513e00e2d7020ce702e2101365 [a,b] h [c 12,cl5 (Ij c r K)] [] [] [(.int .i64 60)]).F
def Qm:R:=(.mk:Sg 0x14621040232820fe001209e9 [a,b] h [c 11,D5 (Tx c r K)]).F
end
variable{d:Nat}(H:Bj disp)
include H
theorem Ar8(hd:1<=d):R1 disp K d 37 (Abv K):=fun _=>rl H hd
theorem Aw8(hd:1<=d):R2 disp K d 38 (Adi K):=fun _ _=>ll H hd (fun _ _=>rfl) 51 (e5 (Pm K) 1 5 11 12 13)
theorem Asn(hd:1<=d):R2 disp K d 82 (Px K):=fun _ _=>rl H hd
theorem Aiu(hd:2<=d):R2 disp K d 36 (I6 K):=fun _ _=>ll H hd (fun d hd=>V2 (Asn H) hd<|rfl) 51 (e5 (G6 K) 2 3 30 31 32)
theorem Ahb(hd:3<=d):S2 disp K d 9 Qm:=fun _ _=>ld rfl rfl H (V1 (Py H) hd<|V2 (Aw8 H) hd<|V1 (Ar8 H) hd<|V2 (Jd H) hd<|V2 (Aiu H) hd<|rfl) 415 (fun c r=>e6 (Cu c r K) 2 5 6 24 25 26)
end
end
theorem Bjj {g:Gm}(b:Int)(h:Ab):Ok (Px K (gV g) (I b) h) fun v h'=>v=.bool (inG g b)/\Ext h h':=by
 simp only[Px,gV,Aa];obtain⟨E,m,k,C,G⟩:=nW h (.cells (gL g) 23);rw[m];have D:Cg (.tuple []) false=false/\Cg (.tuple []) true=false:=⟨rfl,rfl⟩;unfold inG;simp only[I,Ac];by_cases h0:0<=b
 ·simp only[h0,aB,Aa,Ac]
  rw[Al C rfl (v:=I g.B) rfl];simp only[I,Ac,Aa,X2,bF];exact .ret ⟨rfl,k⟩
 ·simp only[h0,aA,Aa,Ac,X2,bA]
  exact .ret ⟨rfl,k⟩
def A9m(g:Gm)(o:H0):Bool:=if o.kind=2 then We g o.x o.y else o.bs.all (inG g)&&(decide (1<=(o.bs.length:Int))&&decide ((o.bs.length:Int)<=4))
theorem A9i(hK:1000<K){g:Gm}{o:H0}{p2 G:Nat}(P:h0.get p2=some (.cells o.cells 34))(S:h0.get G=some (.cells (gL g) 23))(hb:HB h0)(Y:o.bs.length<=1048576)(lq:0<o.bs.length->o.bq<h0.next)(R0:A35 h0 o.bl o.bq o.bs):∀(f i:Nat) (h:Ab),o.bs.length-i<f->i<=o.bs.length->Ext h0 h->(o.bs.take i).all (inG g)=true ->
 Ok (G6 K f (.ptr p2 0) (.ptr G 0) o.bl (I o.bs.length) (I i) h) fun v h'=>v=.bool (o.bs.all (inG g)&&(decide (1<=(o.bs.length:Int))&&decide ((o.bs.length:Int)<=4)))/\Ext h0 h':=by
 intro f;induction f with
 | zero=>intro i h T;omega
 | succ f U=>
  intro i h T Z m E;rw[G6];simp only[I,Ac];have V:Cg (.tuple []) false=false/\Cg (.tuple []) true=false:=⟨rfl,rfl⟩;by_cases C:i<o.bs.length
  ·have:decide ((i:Int)<(o.bs.length:Int))=true:=by simp;omega
   have W:=R0.frame (h':=h) fun y=>m.get _ (lq y) id
   simp only[this,Aa,W9];rw[W.at C,Bp (m.at hb S) rfl (Ai (n:=6) rfl),show EV.agg (gL g)=gV g from rfl];refine(Bjj (K:=K) (g:=g) o.bs[i] h).An ?_;rintro _ h2 ⟨rfl,J⟩;cases D:inG g o.bs[i]with
   | false=>
    simp only[Aa];refine .ret ⟨?_,m.trans J⟩;have:o.bs.all (inG g)=false:=by
     rw[List.all_eq_false];exact⟨_,av C,by rw[D];simp⟩
    rw[this,bA]
   | true=>
    simp only[Aa,Yk,Ac];rw[Cj,show((i:Nat):Int)+1=((i+1:Nat):Int) by omega];refine U (i+1) h2 (by omega) (by omega) (m.trans J) ?_;rw[eh,aC C,List.all_append,E];simp[D]
  ·have:decide ((i:Int)<(o.bs.length:Int))=false:=by simp;omega
   have ei:i=o.bs.length:=by omega
   rw[ei,cN]at E;simp only[this,Aa,X3];have e3:∀k:EV->R,Fm (.ptr p2 3) h k=k o.bl:=fun k=>(Aaa (m.at hb P) k).2.2.2
   rw[e3,R0.F3,E];simp only[I,Ac,bF];by_cases M:1<=(o.bs.length:Int)
   ·simp only[M,aB,Aa,Ac]
    rw[e3,R0.F3];simp only[I,Ac,Aa,N7,bF];exact .ret ⟨rfl,m⟩
   ·simp only[M,aA,Aa,Ac,N7,bA]
    exact .ret ⟨rfl,m⟩
theorem Bfb(hK:2000000<K){g:Gm}(s:Sm g){o:H0}(O:o.At h)(hb:HB h)(hl:o.bs.length<=1048576)(lq:0<o.bs.length->o.bq<h.next):Ok (I6 K (.agg o.cells) (gV g) h) fun v h'=>v=.bool (A9m g o)/\Ext h h':=by
 have ol:=H0.len O.ev;have b0:=s.b0;have b1:=s.b1;simp only[I6,gV,Aa];obtain⟨W,P,Y,g1,n1⟩:=nW h (.cells o.cells 34);rw[P];obtain⟨h2,P,S,T,n2⟩:=nW W (.cells (gL g) 23);rw[P];have G:=Y.hb hb;have C:=S.hb G;have m:=Y.trans S;have D:=S.at G g1;have a1:Cg (.tuple []) false=false/\Cg (.tuple []) true=false:=⟨rfl,rfl⟩;have e:=fun k:EV->R=>Aaa D k
 rw[(e _).1];unfold A9m;simp only[I,Ac];by_cases k2:o.kind=2
 ·rw[aG k2]
  simp only[k2,aB,Aa];rw[Bp T rfl (Ai (n:=6) rfl),show EV.agg (gL g)=gV g from rfl,(e _).2.1];refine(Bjj (K:=K) (g:=g) o.x h2).An ?_;rintro _ Z ⟨rfl,J⟩;have U:=J.at C D;have V:=J.at C T;have E:=m.trans J;have e:=fun k:EV->R=>Aaa U k
  have eB:∀k:EV->R,Fm (.ptr W.next 3) Z k=k (I g.B):=fun k=>Al V rfl rfl
  unfold We;show Ok _ fun v h'=>v=.bool (inG g o.x&&_)/\Ext h h'
  cases hx:inG g o.x with
  | false=>
   simp only[Aa,Ac,Jl,J2,bA];exact .ret ⟨rfl,E⟩
  | true=>
   unfold inG at hx;simp only[aR,aQ]at hx;simp only[Aa,Ac];rw[(e _).2.2.1];simp only[I,Ac,bF];by_cases M:1<=o.y
   ·simp only[M,aB,Aa,Ac,Jl,bF]
    rw[(e _).2.2.1,eB,(e _).2.1];simp only[I,Ac];rw[Cj];simp only[Aa,Ac,J2];exact .ret ⟨rfl,E⟩
   ·simp only[M,aA,Aa,Ac,Jl,J2,bA]
    exact .ret ⟨rfl,E⟩
 ·rw[aF k2]
  simp only[k2,aA,Aa,Xj];rw[(e _).2.2.2,O.row.F3];refine(A9i (K:=K) (by omega) D T C hl (fun y=>by have:=lq y;have:=m.next;omega) (O.row.frame fun y=>m.get _ (lq y) id) K 0 h2 (by omega) (by omega) (Av.refl _) (by simp)).mono ?_;rintro v Z ⟨rfl,J⟩;exact⟨rfl,m.trans J⟩
section
theorem Bg1{ml t:Nat}{es:List Me}(C:h0.get ml=some (.cells (es.map Me.cells).flatten t))(hb:HB h0)(P:es.length<=256)(no:∀x∈es,¬x.state=2):∀(f i:Nat) (h:Ab),es.length-i<f->i<=es.length->Ext h0 h ->
 Ok (Pm K f (I 2) (I 0) (.slice ml 0 es.length es.length false) (I es.length) (I i) h) fun v h'=>v=I 0/\Ext h0 h':=by
 intro f;induction f with
 | zero=>intro i h D;omega
 | succ f E=>
  intro i h D S m;rw[Pm];simp only[I,Ac];by_cases k:i<es.length
  ·have:decide ((i:Int)<(es.length:Int))=true:=by simp;omega
   simp only[this,Aa,Alz];rw[Lv k,bJ,Bp (m.at hb C) rfl (Avh es k)];refine Ok.mk rfl rfl fun h2 G J _=>?_
   have M:=no _ (av k);rw[Al J rfl (v:=I es[i].state) rfl];simp only[I,Ac,M,aA,Aa,Ami];rw[Cj,show((i:Nat):Int)+1=((i+1:Nat):Int) by omega];exact E (i+1) h2 (by omega) (by omega) (m.trans G)
  ·have:decide ((i:Int)<(es.length:Int))=false:=by simp;omega
   simp only[this,Aa,Amv];exact .ret ⟨rfl,m⟩
theorem Bg3(hK:1000<K)(C:Cz h B X F)(c:Cc X L mt):Ok (Adi K (.ptr B.b 0) (I 2) h) fun v h'=>v=I 0/\Ext h h':=by
 have lb:=c.lb;have el:=C.A9v;have m:=C.map.map;rw[<-lb]at m;simp only[Adi,Aa];rw[Al m rfl (v:=.slice B.ml 0 X.es.length X.es.length false) rfl];exact Bg1 C.map.row C.hb el (fun x k h2=>by
  obtain⟨b,hb⟩:=cK.1 k;rcases c.state hb with y|y
  ·omega
  ·rw[y]at h2;cases h2) K 0 h (by omega) (by omega) (Av.refl _)
section
variable (A:Bj disp)(hK:3000000<K){d:Nat}(hd:31<=d){N a2 b:Nat}{g:Gm}{Q:EV->Ab->Prop}(lF:∀i,i<N->F i)(l0:N<=h0.next)(hb0:HB h0)(f2:F a2)(ga2:h0.get a2=some (.cells (gL g) 23))(R0:So h0 N v1 b O)(hL:O.length<=60)
include A hK hd
theorem Bov(D:∀h,Kf F h0 h->Q (.bool true) h){i:Nat}{v:EV}{q:Nat}(l:Lb F g h0 h B X L mt i v q):
 Ok (No (Ae TT disp K (d+1) false) (Ae TT disp K (d+1) true) K (.ptr B.c 0) v h) Q:=by
 have E:Cg (.tuple []) false=false/\Cg (.tuple []) true=false:=⟨rfl,rfl⟩;simp only[No,Aa];refine(Aus (K:=K) A hK (d:=d) (by omega) (q:=q) (F:=fun j=>F j\/j=q) (.inr rfl) l.C l.w.j l.b).An ?_;rintro _ h2 ⟨rfl,Z,c2,m,_⟩;have k2:=l.k.trans (c2.less (F:=F) fun j=>.inl).k;simp only[Aa,Abv];rw[c2.C.ldS,m.c.un];simp only[Aa,Ac,Wh,C0];rw[c2.C.ldB]
 try simp only[Aa]
 refine(Bg3 (K:=K) (by omega) c2.C m.c).An ?_;rintro _ J ⟨rfl,G⟩;simp only[I,Ac,aB,Aa,Vy];exact .ret (D _ (k2.trans (Ext.kf G)))
include lF l0 hb0 f2 ga2 R0 hL
theorem Bho(kk:∀h,Kf F h0 h->Q (.bool true) h):∀(f i:Nat) (h:Ab) (X:Co) (L:List (List Nat)) (mt:Int->Int) (v:EV) (q:Nat),O.length-i<f->i<=O.length->Lb F g h0 h B X L mt i v q ->
 Ok (Cu (Ae TT disp K (d+1) false) (Ae TT disp K (d+1) true) K f (.ptr a2 0) (.ptr B.c 0) v v1 (I O.length) (I i) h) Q:=by
 intro f;induction f with
 | zero=>intro i h X L mt v q hf;omega
 | succ f ih=>
  intro i h X L mt v q hf hi l;rw[Cu];simp only[I,Ac];have cw:Cg (.tuple []) false=false/\Cg (.tuple []) true=false:=⟨rfl,rfl⟩;by_cases S:i<O.length
  ·have:decide ((i:Int)<(O.length:Int))=true:=by simp;omega
   have Rh:=R0.frame (h':=h) fun j hj=>l.k.get j (by omega) fun y=>y (lF j hj)
   simp only[this,Aa,Up];refine Au8 Rh S fun h2 x2 U n2=>?_
   obtain⟨oa,ob,V,od⟩:=Rh.Qu _ (av S);generalize O[i]=o at oa ob V od U;have ol:=H0.len oa.ev;have J:=l.ext x2;have al:∀k:EV->R,Fm (.ptr h.next 0) h2 k=k (I o.kind):=fun k=>(Aaa U k).1
   have o2:o.At h2:=⟨oa.row.frame fun y=>by
    have l3:=l.C.M.lt _ (.inl (.inl (lF _ (ob y))));rw[x2.get _ l3 id],oa.ev,oa.pl⟩
   have cp:Cz h2 B X (fun j=>(F j\/j=q)\/j=h.next):=(l.C.ext x2).less fun j hj=>by
    rcases hj with hj|rfl
    ·exact .inl hj
    ·exact .inr ⟨aE _,by omega⟩
   have D:∀h' Y L' mt' W q',Lb F g h0 h' B Y L' mt' (i+1) W q'->Ok (Gj (Ae TT disp K (d+1) false) (Ae TT disp K (d+1) true) K (Cu (Ae TT disp K (d+1) false) (Ae TT disp K (d+1) true) K f) (.ptr a2 0) (.ptr B.c 0) W v1 (.int .i64 (O.length:Int)) (.int .i64 (i:Int)) h') Q:=fun h' Y L' mt' W q' l'=>by
    simp only[Gj,Ac];rw[Cj,show((i:Nat):Int)+1=((i+1:Nat):Int) by omega];exact ih (i+1) h' Y L' mt' W q' (by omega) (by omega) l'
   rw[al];simp only[I,Ac];by_cases k9:o.kind=9
   ·simp only[k9,aB,Aa]
    exact D h2 X L mt v q ⟨J.C,J.w.more,J.b,J.k,J.n⟩
   simp only[k9,aA,Aa,Uu];rw[Bp U rfl (Ai ol)];refine(A3g (K:=K) A hK (d:=d+1) (by omega) (N:=N) lF (by omega) J U o2 ob V od k9 cp).An ?_;rintro _ P ⟨e,Y,L',mt',rfl,z,g3,Z,di⟩;have T:∀k:EV->R,Fm (.ptr h.next 0) P k=k (I o.kind):=fun k=>(Aaa g3 k).1
   have p5:∀h',Ext P h'->Ok (Ny (Ae TT disp K (d+1) false) (Ae TT disp K (d+1) true) K (Cu (Ae TT disp K (d+1) false) (Ae TT disp K (d+1) true) K f) (.ptr a2 0) (.ptr B.c 0) v (.ptr h.next 0) (.int .i64 e) v1 (.int .i64 (O.length:Int)) (.int .i64 (i:Int)) h') Q:=fun h' x=>by
    have z':Cz h' B Y (fun j=>F j\/j=q)/\LwI g Y L' mt' (i+1)/\Bk h' v q L/\Kf F h0 h':=⟨(z.1.toE x).C,z.2.1,z.2.2.1.frame (x.get _ (z.2.2.1.lt z.1.hb) id),z.2.2.2.trans (Ext.kf x)⟩;have o4:o.At h':=⟨Z.row.frame fun y=>x.get _ (z.1.M.lt _ (.inl (.inl (lF _ (ob y))))) id,Z.ev,Z.pl⟩;simp only[Ny,Ac];by_cases m:e=0
    ·simp only[m,aB,Aa]
     rw[Bp (x.at z.1.hb g3) rfl (Ai ol)];refine(Aqk (K:=K) hK (N:=N) lF z' l.w.gg (l.w.len z.2.1) o4 ob V di m).An ?_;rintro w h4 ⟨q',l4⟩;exact D h4 Y L' mt' w q' l4
    ·simp only[m,aA,Aa]
     exact D h' Y L' mt' v q (Au6 z' di m l.n)
   have E:(o.kind=1\/o.kind=2)->Ok (Oz 72 (.ptr h.next 0) P fun a1=>Oz 6 (.ptr a2 0) P fun a3=>An (I6 K a1 a3 P) fun a6 hh=>Kl An2 (bin TT .eql 35) (.int .i64 e) (.int .i64 0) fun a7=>Kl Alb (bin TT .neq 4) a6 a7 fun G=>Bf (Cg G false) (Kl Alb (bin TT .neq 35) (.int .i64 e) (.int .i64 0) fun bk=>Gr (Ae TT disp K (d+1) false) (Ae TT disp K (d+1) true) K (Cu (Ae TT disp K (d+1) false) (Ae TT disp K (d+1) true) K f) (.ptr a2 0) (.ptr B.c 0) v (.ptr h.next 0) (.int .i64 e) v1 (.int .i64 (O.length:Int)) (.int .i64 (i:Int)) G bk hh) (Gr (Ae TT disp K (d+1) false) (Ae TT disp K (d+1) true) K (Cu (Ae TT disp K (d+1) false) (Ae TT disp K (d+1) true) K f) (.ptr a2 0) (.ptr B.c 0) v (.ptr h.next 0) (.int .i64 e) v1 (.int .i64 (O.length:Int)) (.int .i64 (i:Int)) G (.tuple []) hh)) Q:=fun k12=>by
    have s:Sm g:=by rw[<-l.w.gg];exact l.w.j.c.c.sm
    rw[Bp g3 rfl (Ai ol),Bp (Kf.at z.2.2.2 hb0 ga2 f2) rfl (Ai (n:=6) rfl),show EV.agg (gL g)=gV g from rfl];refine(Bfb (K:=K) (by omega) s Z z.1.hb V (fun y=>z.1.M.lt _ (.inl (.inl (lF _ (ob y)))))).An ?_;rintro _ h4 ⟨rfl,x4⟩;have er:A9m g o=decide (e=0):=by
     unfold A9m;rcases k12 with k1|k2
     ·rw[aF (by omega),<-Bqt (x:=o.x),<-l.w.gg]
      rcases di.w k1 with⟨a,y,_⟩|⟨a,y,_⟩
      ·rw[a,y];rfl
      ·rw[a,y];rfl
     ·rw[aG k2,<-l.w.gg]
      rcases di.t k2 with⟨a,y,_⟩|⟨a,y,_⟩
      ·rw[a,y];rfl
      ·rw[a,y];rfl
    rw[er];simp only[Ac];rw[Bcj];simp only[aB,dR,Aa,Ac];by_cases m:e=0
    ·have:=p5 h4 x4
     simp only[m,aD,aA,Aa,Ac,Gr,Ni,Nm]at this⊢;exact this
    ·obtain⟨b5,_⟩:=di.er m
     have:=p5 h4 x4;simp only[b5,m,aD,aN,aB,aA,Aa,Ac,Gr,Ni,Nm]at this⊢;exact this
   simp only[I,Aa,Ac]at E⊢;rw[T];simp only[I,Ac];by_cases k1:o.kind=1
   ·simp only[k1,aB,Aa,Ac,Ja]
    exact E (.inl k1)
   simp only[k1,aA,Aa,Ac];rw[T];simp only[I,Ac];by_cases k2:o.kind=2
   ·simp only[k2,aB,Aa,Ac,Ja]
    exact E (.inr k2)
   simp only[k2,aA,Aa,Ac,Ja];have eL:=di.r k1 k2;subst eL;exact D P Y _ mt' v q ⟨z.1,z.2.1,z.2.2.1,z.2.2.2,l.n⟩
  ·have:decide ((i:Int)<(O.length:Int))=false:=by simp;omega
   simp only[this,Aa];exact Bov A hK hd kk l
end
end
theorem Bls(A:Bj disp)(hK:3000000<K){d:Nat}(hd:31<=d)(S:∀h,Ae TT disp K (d+1) false 11 [] h=some (.bool true,h))(g:Gm)(hb:HB h){b:Nat}(R0:So h h.next v1 b O):
 Ok (Qm (Ae TT disp K (d+1) false) (Ae TT disp K (d+1) true) K (gV g) v1 h) fun v h'=>v=.bool true/\∀i,i<h.next->h'.get i=h.get i:=by
 simp only[Qm,gV,Aa,S];obtain⟨m,e_,T,V,n1⟩:=nW h (.cells (gL g) 23);rw[e_];have C:=T.hb hb;simp only[Tx,Aa];rw[Db V rfl,Ai (n:=6) rfl]
 try simp only[Aa]
 rw[show EV.agg (gL g)=gV g from rfl];refine(Yz (K:=K) A (by omega) (d:=d+1) (by omega) g C).An ?_;rintro v h2 ⟨k2,U,J⟩;have R2:So h2 h.next v1 b O:=R0.frame fun i M=>by rw[k2.get i (by omega) fun y=>y (show i<m.next by omega),T.get i M id]
 have E:=k2.at C V (show h.next<m.next by omega);have al:Cg (.tuple []) false=false/\Cg (.tuple []) true=false:=⟨rfl,rfl⟩;have t2:=k2.next
 have Gx:∀(F:Nat->Prop) (h':Ab),(∀i,i<m.next->F i)->Kf F h2 h'->∀i,i<h.next->h'.get i=h.get i:=fun F h' hF k i M=>by
  rw[k.get i (by omega) fun y=>y (hF i (by omega)),k2.get i (by omega) fun y=>y (show i<m.next by omega),T.get i M id]
 by_cases P:rtB g=true/\g.D*g.Z<=64
 case neg=>
  rw[aF P]at J;subst J;rw[Ai6];simp only[Aa,Ac,Ij];exact .ret ⟨rfl,Gx (fun _=>True) h2 (fun _ _=>trivial) (Av.refl _)⟩
 rw[aG P]at J;obtain⟨B,rfl,C2,lB⟩:=J;rw[Aoy];simp only[Aa,Ac];rw[R2.F3];simp only[I,Ac];by_cases G:60<(O.length:Int)
 ·simp only[G,aB,Aa,Ac,Ij]
  exact .ret ⟨rfl,Gx (fun _=>True) h2 (fun _ _=>trivial) (Av.refl _)⟩
 simp only[G,aA,Aa,Ac,Ij,U2];rw[Al E rfl (v:=.int .i64 g.B) rfl];obtain⟨W,v3,em,b3,Y,n3⟩:=A3n (Nw P.1) h2;rw[em,As,R2.F3];have R3:So h2 h.next v1 b O:=R2
 have l3:Lb (fun i=>i<m.next) g h2 W B (Co.start g) (Tq g) (fun _=>-1) 0 v3 h2.next:=⟨(C2.ext Y).less fun j hj=>by
  rcases hj with hj|rfl
  ·exact .inl hj
  ·exact .inr ⟨aE _,by omega⟩,LwI.start P.1,b3,Ext.kf Y,aE _⟩
 exact Bho (K:=K) (Q:=fun v h'=>v=.bool true/\∀i,i<h.next->h'.get i=h.get i) A hK hd (F:=fun i=>i<m.next) (N:=h.next) (fun i M=>by show i<m.next;omega) (by omega) U (show h.next<m.next by omega) E R3 (by omega) (fun h' k=>⟨rfl,Gx _ h' (fun _ y=>y) k⟩) K 0 W _ _ _ _ _ (by omega) (by omega) l3
end Go.Ev
