import Derived.Test.YtadnemjjlacolaaGreatLb
import Derived.Test.YtadnemjjlacolaaGreatNe
import Derived.Test.YtadnemjjlacolaaGreatDc
set_option linter.all false
namespace Go.Ev
open Go.Proofs
set_option maxRecDepth 100000
set_option maxHeartbeats 4000000
variable {h:Ab}{F:Nat->Prop}{X:Co}{L:List (List Nat)}{mt:Int->Int}{v1:EV}{O:List H0}{disp:Nat->Option FT}{K:Nat}
section
noncomputable section
section
variable (c r:Ah)(K l:Nat)(k0:A0)(k1:A1)(k2:A2)(k3:A3)(k4:A4)(k5:A5)(k6:A6)(k7:A7)(k8:A8)(k9:A9)(k10:A10)(k11:A11)(k12:A12)(m0:B0)(m1:B1)(m2:B2)(m3:B3)(m4:B4)(m5:B5)(m6:B6)(m7:B7)(m8:B8)(m9:B9)(m10:B10)(m11:B11)(m12:B12)(base:Nat)(s:DX)(tm:Ax)(a b d e f g i j n o p q t u w x y z aa ab ad ae af ag ai aj an ao ap aq au aw ax ay az ba bb bd be bf bg bi bj bn bo bp bq bt bu bw bx bz da db dd de df dg di dj dn dp dq dt du dw dx dy dz ea eb ed ee ef eg ei ej en eo ep eq et eu ew ex ey ez fa fb fd fe ff fg fi fj fn fo fp fq ft fu fw fx fy fz ga gb gd ge gf gg gi gj gn go gp gq gt gu gw gx gy gz ia ib ie ig ii ij io ip iq it iu iw ix iy iz ja jb:EV)(h:Ab)(ds:List Nat)
def Xx:Ru K (Ru r (Ru c R)):=(.mk:Sg 0x12200215e702e [a] h).F
def Jn:R:=(.mk:Sg 0x131002203e0315e702e8284309e [a,b,d] h [Ey (Xx c r K)]).F
def Ob:R:=(.mk:Sg 0x120233202563202622e211156502e2d00320e24201 [a,b,d] h [c 20,Ey (Da K),Lz (Jn c r K)]).F
def On(c:Ah)(r:Ah)(K:Nat)(base:Nat)(s:DX)(a:EV)(b:EV)(d:EV)(e:EV)(f:EV)(h:Ab):R:=
 pkO e f fun g=>
 ifE g
 (some ((.bool false),h))
 (Ob c r K a b d h)
def Oj:R:=
 Adz h fun base s=>
 P8 1 0 base b s fun s=>Oz 6 b h fun e=>
 L5 2 2 s h (fun h=>(Jm K e h)) fun f h s=>
 L5 3 7 s h (fun h=>(c 20 [d,f] h)) fun g h s=>
 Kl Alb (bin TT .neq 35) g (.int .i64 0) fun i=>
 wfE i
 (L5 7 127 s h (fun h=>(Fh K d h)) fun j h s=>
 L5 8 255 s h (fun h=>(Ce K j h)) fun n h s=>
 L5 9 511 s h (fun h=>(Hd K n h)) fun o h s=>
 P8 10 63 base b s fun s=>Oz 6 b h fun p=>
 L5 11 2047 s h (fun h=>(Jm K p h)) fun q h s=>
 Axi o q fun t=>
 On c r K base s a b d i t h)
 (On c r K base s a b d i tU h)
def Jz:Ru K (Ru r (Ru c R)):=
 Iz g fun i=>
 k6 a b d e f i h
def Hb:R:=(.mk:Sg 0x1987543610ba97656106220163ae503e28a909e [a,b,d,e,f,g,i,j,n] h [c 13,cl6 (Jz c r K k6)]).F
def J5:R:=(.mk:Sg 0x1202987654390024ba9876590001224e60405e2da909e [a,b,d,e,f,g,i,j,n] h [cl9 (Hb c r K k6)] [] [] [(.int .i64 6)]).F
def Xe:R:=(.mk:Sg 0x1202cba49879002400edc6ba990030224e40405e2d10224e204214e03ae06e23ae5753ae15e [a,b,d,e,f,g] h [cl9 (J5 c r K k6)] [] [List.replicate 3 (.int .i64 0)++[.Ao]++List.replicate 4 (.int .i64 0)++List.replicate 64 (.int .u8 0)]).F
def D3(c:Ah)(r:Ah)(K:Nat):Nat->A6
 | 0=>fun _ _ _ _ _ _ _=>none
 | m+1=>fun a b d e f g h=>
  cE Iq .lss 3 g f
  (Xe c r K (D3 c r K m) a b d e f g h)
  (Oj c r K a b d h)
def Wl:R:=
 F3 a fun f=>
 D3 c r K K b d e a f (.int .i64 0) h
def I9:R:=(.mk:Sg 0x165434005023287609e [a,b,d,e,f,g] h [Zc (Wl c r K)]).F
def Wg:R:=(.mk:Sg 0x1202376561024598761001222e513e01e2d7020ce702e2101465 [a,b,d] h [c 12,cl6 (I9 c r K)] [] [] [(.int .i64 60)]).F
def Re:R:=(.mk:Sg 0x147631040232820fe001209e9 [a,b,d] h [c 11,Lz (Wg c r K)]).F
end
variable{d:Nat}(H:Bj disp)
include H
theorem Aiy(hd:3<=d):S3 disp K d 4 Re:=fun _ _ _=>ld rfl rfl H (V1 (Es H) hd<|V1 (Ve H) hd<|V1 (Ln H) hd<|V1 (Fx H) hd<|V1 (Zu H) hd<|rfl) 207 (fun c r=>e6 (D3 c r K) 2 3 7 22 23 24)
end
end
section
theorem A86(hK:10000<K){m:Nat}{S:Mi}(M:Dd h m S F)(hb:HB h):∃p,Ce K (.ptr m 0) h=some (.ptr p 0,h)/\Ok (Hd K (.ptr p 0) h) fun v h'=>v=I (F7 S.ps S.g.D.toNat)/\Ext h h':=by
 obtain⟨lt,D,p,bl,ql,np,q,c,G,a⟩:=M.s;have k:=a.psz.nd;subst k;exact⟨p,Yj a.Kk,A4y (K:=K) a.Hp hb a.psz.small (by omega)⟩
section
variable (A:Bj disp)(hK:3000000<K){d:Nat}(hd:31<=d){B:Cb}{N a3 b:Nat}{g:Gm}{n:Int}{h0:Ab}{Q:EV->Ab->Prop}(lF:∀i,i<N->F i)(l0:N<=h0.next)(hb0:HB h0)(f3:F a3)(ga3:h0.get a3=some (.cells (gL g) 23))(R0:So h0 N v1 b O)(hL:O.length<=60)
include A hK hd hb0 f3 ga3
theorem Be0(m:∀h,Kf F h0 h->Q (.bool true) h){i:Nat}(M:i<=70)(C:Cz h B X F)(w:LwI g X L mt i)(k0:Kf F h0 h):Ok (Ob (Ae TT disp K d false) (Ae TT disp K d true) K (I n) (.ptr a3 0) (.ptr B.c 0) h) Q:=by
 have J:Cg (.tuple []) false=false/\Cg (.tuple []) true=false:=⟨rfl,rfl⟩;have gen:=w.gen;have nx:=w.nx;have s:Sm g:=by rw[<-w.gg];exact w.j.c.c.sm
 simp only[Ob,Aa];by_cases v:n<0\/X.S.g.D*X.S.g.Z<n
 ·refine(Bid A C (d:=d) (by omega) v).An ?_
  rintro _ h2 ⟨rfl,c2⟩;have k2:=k0.trans c2.k;rw[w.gg]at v;simp only[I,Ac];by_cases h0:n<0
  ·simp only[h0,aB,Aa,Ac,Jn]
   exact .ret (m _ k2)
  ·simp only[h0,aA,Aa,Ac]
   rw[Bp (Kf.at k2 hb0 ga3 f3) rfl (Ai (n:=6) rfl)];rw[show EV.agg (gL g)=gV g from rfl,Lo s,As];have E:g.D*g.Z<n:=by omega
   have G:Ext h2 (h2.new (.cells (gL g) 23)):=Av.new _ _;simp only[I,Ac,E,aB,Aa,Jn];exact .ret (m _ (k2.trans (Ext.kf G)))
 ·refine(Bbf A (by omega) C w.j.c w.j.sq w.j.fr (by omega) (by omega) (d:=d) (by omega) (n:=n) (by omega) (by omega)).An ?_
  rintro _ h2 ⟨rfl,Y,mt',c2,_⟩;have k2:=k0.trans c2.k;rw[w.gg]at v;have h0:¬n<0:=by omega
  have E:¬g.D*g.Z<n:=by omega
  simp only[I,Ac,h0,aA,Aa];rw[Bp (Kf.at k2 hb0 ga3 f3) rfl (Ai (n:=6) rfl)];rw[show EV.agg (gL g)=gV g from rfl,Lo s,As];have G:Ext h2 (h2.new (.cells (gL g) 23)):=Av.new _ _;simp only[I,Ac,E,aA,Aa,Jn,Xx,aB];exact .ret (m _ (k2.trans (Ext.kf G)))
theorem Bb7(W:∀h,Kf F h0 h->Q (.bool true) h){i:Nat}(hi:i<=60)(C:Cz h B X F)(w:LwI g X L mt i)(k0:Kf F h0 h):Ok (Oj (Ae TT disp K d false) (Ae TT disp K d true) K (I n) (.ptr a3 0) (.ptr B.c 0) h) Q:=by
 have Z:Cg (.tuple []) false=false/\Cg (.tuple []) true=false:=⟨rfl,rfl⟩;have gen:=w.gen;have nx:=w.nx;have s:Sm g:=by rw[<-w.gg];exact w.j.c.c.sm
 have ga:=Kf.at k0 hb0 ga3 f3;have T:=C.hb _ _ ga;simp only[Oj,Aa,Aw];rw[Ku T,Bp ga rfl (Ai (n:=6) rfl)]
 try simp only[Aa,Aw]
 rw[show EV.agg (gL g)=gV g from rfl];refine Ok.bE (P:=fun v h'=>v=I g.De/\Ext h.lift h') ⟨_,_,Aak s _,rfl,Av.new _ _⟩ (fun _ _ p=>p.2) ?_;rintro _ _ h2 ⟨rfl,_⟩ _ x2;have c2:=C.toE x2;have gs:X.S.g.De=g.De:=by rw[w.gg]
 have sg:=(Bn2 w.j.c.c.rt).2;have hr:0<=X.S.g.De:=by
  have:=dP (show 0<=X.S.g.D by have:=w.j.c.c.sm.d0;omega) w.j.c.c.sm.p0;unfold Gm.De;omega
 have rc:=Bbf (K:=K) A (by omega) c2.C.lift w.j.c w.j.sq w.j.fr (by omega) (by omega) (d:=d) (by omega) (n:=g.De) (by rw[<-gs];exact hr) (by rw[<-gs];omega);refine Ok.bC (S:=fun j=>¬F j) rc (fun _ _ p=>by obtain⟨_,_,_,p,_⟩:=p;exact p.k) ?_;rintro _ a0 h3 s' ⟨rfl,Y,mt',c3,cy,sy,r⟩ sm ch E;have c3:Ej h2 h3 B X F Y:=⟨c3.C.same sm,ch,c3.ck⟩;obtain⟨j3,o3⟩:=w.j.rm cy sy r;have w3:=w.step j3 o3;have k3:=k0.trans (c2.trans c3).k;have pr:g.De<=Y.prs:=r.res (by omega);have b6:=Kf.at k3 hb0 ga3 f3;have b7:=c3.C.lift.hb;obtain⟨p,e1,e2⟩:=A86 (K:=K) (by omega) c3.C.lift.M c3.C.lift.hb;have G:¬Y.prs<g.De:=by omega
 have l2:=c2.hb _ _ (Kf.at (k0.trans c2.k) hb0 ga3 f3);rcases E with rfl|⟨w',rfl,_⟩
 all_goals
  simp only[I,Ac,aD,aA,Aa,Aw];rw[Aqs (v:=.ptr B.m 0) (by simp only[Fh,Aa];rw[c3.C.lift.ldM])]
  try simp only[Aa,Aw]
  rw[Aqs e1]
  try simp only[Aa,Aw]
  refine Ok.bE e2 (fun _ _ p=>p.2) ?_;rintro _ _ h4 ⟨rfl,_⟩ _ U;have c4:=c3.trans (c3.C.toE U);have k4:=k3.trans (Ext.kf U);have J:=Kf.at k4 hb0 ga3 f3;rw[Ku T,Bp J rfl (Ai (n:=6) rfl)]
  try simp only[Aa,Aw]
  rw[show EV.agg (gL g)=gV g from rfl];refine Ok.bE (P:=fun v h'=>v=I g.De/\Ext h4.lift h') ⟨_,_,Aak s _,rfl,Av.new _ _⟩ (fun _ _ p=>p.2) ?_;rintro _ _ h5 ⟨rfl,_⟩ _ V;show Ok (Kl Iq (bin TT .lss 3) (.int .i64 Y.prs) (.int .i64 g.De) _) Q;simp only[Ac,G,aA,Aa,On];exact Be0 A hK hd hb0 f3 ga3 W (by omega) ((c4.C.toE V).C) w3 (k4.trans (Ext.kf V))
include lF l0 R0 hL
theorem A6z(Z:∀h,Kf F h0 h->Q (.bool true) h):∀(f i:Nat) (h:Ab) (X:Co) (L:List (List Nat)) (mt:Int->Int),O.length-i<f->i<=O.length->Cz h B X F->LwI g X L mt i->Kf F h0 h ->
 Ok (D3 (Ae TT disp K d false) (Ae TT disp K d true) K f (I n) (.ptr a3 0) (.ptr B.c 0) v1 (I O.length) (I i) h) Q:=by
 intro f;induction f with
 | zero=>intro i h X L mt hf;omega
 | succ f ih=>
  intro i h X L mt hf hi C w k0;rw[D3];simp only[I,Ac];have a0:Cg (.tuple []) false=false/\Cg (.tuple []) true=false:=⟨rfl,rfl⟩;by_cases D:i<O.length
  ·have:decide ((i:Int)<(O.length:Int))=true:=by simp;omega
   have S:=R0.frame (h':=h) fun j hj=>k0.get j (by omega) fun y=>y (lF j hj)
   simp only[this,Aa,Xe];refine Au8 S D fun h2 G J n2=>?_
   obtain⟨oa,ob,T,U⟩:=S.Qu _ (av D);generalize O[i]=o at oa ob T U J;have ol:=H0.len oa.ev;have k2:=k0.trans (Ext.kf G);have V:=(C.toE G).C;have m:∀k:EV->R,Fm (.ptr h.next 0) h2 k=k (I o.kind):=fun k=>(Aaa J k).1
   have v:∀h' Y L' mt',Cz h' B Y F->LwI g Y L' mt' (i+1)->Kf F h0 h'->Ok (Jz (Ae TT disp K d false) (Ae TT disp K d true) K (D3 (Ae TT disp K d false) (Ae TT disp K d true) K f) (I n) (.ptr a3 0) (.ptr B.c 0) v1 (.int .i64 (O.length:Int)) (.int .i64 (i:Int)) h') Q:=fun h' Y L' mt' C' w' k'=>by
    simp only[Jz,Ac];rw[Cj,show((i:Nat):Int)+1=((i+1:Nat):Int) by omega];exact ih (i+1) h' Y L' mt' (by omega) (by omega) C' w' k'
   have go:¬o.kind=9->Ok (Oz 72 (.ptr h.next 0) h2 fun P=>An (Ae TT disp K d false 13 [P,.ptr B.c 0] h2) fun a6 h=>Jz (Ae TT disp K d false) (Ae TT disp K d true) K (D3 (Ae TT disp K d false) (Ae TT disp K d true) K f) (I n) (.ptr a3 0) (.ptr B.c 0) v1 (.int .i64 (O.length:Int)) (.int .i64 (i:Int)) h) Q:=fun k9=>by
    rw[Bp J rfl (Ai ol)];have gen:=w.gen;have nx:=w.nx;have o2:o.At h2:=⟨oa.row.frame fun y=>by
     have l:=C.M.lt _ (.inl (lF _ (ob y)));rw[G.get _ l id],oa.ev,oa.pl⟩
    refine(Bg4 (K:=K) A hK V w.j (by omega) (by omega) o2 T (fun y=>lF _ (ob y)) U k9 hd).An ?_;rintro _ h6 ⟨e,Y,L',mt',rfl,W,j6,o6,di⟩;exact v h6 Y L' mt' W.C (w.step j6 o6) (k2.trans W.k)
   simp only[I]at go v;rw[m];simp only[I,Ac];by_cases k1:o.kind=1
   ·simp only[k1,aB,Aa,Ac,J5,Hb]
    exact go (by omega)
   simp only[k1,aA,Aa,Ac];rw[m];simp only[I,Ac];by_cases E:o.kind=2
   ·simp only[E,aB,Aa,Ac,J5,Hb]
    exact go (by omega)
   simp only[E,aA,Aa,Ac,J5];rw[m];simp only[I,Ac];by_cases k6:o.kind=6
   ·simp only[k6,aB,Aa,Ac,Hb]
    exact go (by omega)
   simp only[k6,aA,Aa,Ac,Hb];exact v h2 X L mt V w.more k2
  ·have:decide ((i:Int)<(O.length:Int))=false:=by simp;omega
   simp only[this,Aa];exact Bb7 A hK hd hb0 f3 ga3 Z (by omega) C w k0
end
end
theorem Bqu(A:Bj disp)(hK:3000000<K){d:Nat}(hd:31<=d)(M:∀h,Ae TT disp K d false 11 [] h=some (.bool true,h))(g:Gm)(hb:HB h){b:Nat}(n:Int)(R0:So h h.next v1 b O):
 Ok (Re (Ae TT disp K d false) (Ae TT disp K d true) K (gV g) v1 (I n) h) fun v h'=>v=.bool true/\∀i,i<h.next->h'.get i=h.get i:=by
 simp only[Re,gV,Aa,M];obtain⟨m,W,P,V,n1⟩:=nW h (.cells (gL g) 23);rw[W];have C:=P.hb hb;simp only[Wg,Aa];rw[Db V rfl,Ai (n:=6) rfl]
 try simp only[Aa]
 rw[show EV.agg (gL g)=gV g from rfl];refine(Yz (K:=K) A (by omega) (d:=d) (by omega) g C).An ?_;rintro v h2 ⟨k2,S,G⟩;have R2:So h2 h.next v1 b O:=R0.frame fun i J=>by rw[k2.get i (by omega) fun y=>y (show i<m.next by omega),P.get i J id]
 have T:=k2.at C V (show h.next<m.next by omega);have Y:Cg (.tuple []) false=false/\Cg (.tuple []) true=false:=⟨rfl,rfl⟩;have t2:=k2.next
 have Gx:∀(F:Nat->Prop) (h':Ab),(∀i,i<m.next->F i)->Kf F h2 h'->∀i,i<h.next->h'.get i=h.get i:=fun F h' hF k i J=>by
  rw[k.get i (by omega) fun y=>y (hF i (by omega)),k2.get i (by omega) fun y=>y (show i<m.next by omega),P.get i J id]
 by_cases U:rtB g=true/\g.D*g.Z<=64
 case neg=>
  rw[aF U]at G;subst G;rw[Ai6];simp only[Aa,Ac,I9];exact .ret ⟨rfl,Gx (fun _=>True) h2 (fun _ _=>trivial) (Av.refl _)⟩
 rw[aG U]at G;obtain⟨B,rfl,C2,lB⟩:=G;rw[Aoy];simp only[Aa,Ac];rw[R2.F3];simp only[I,Ac];by_cases E:60<(O.length:Int)
 ·simp only[E,aB,Aa,Ac,I9]
  exact .ret ⟨rfl,Gx (fun _=>True) h2 (fun _ _=>trivial) (Av.refl _)⟩
 simp only[E,aA,Aa,Ac,I9,Wl];rw[R2.F3];exact A6z (K:=K) (n:=n) (Q:=fun v h'=>v=.bool true/\∀i,i<h.next->h'.get i=h.get i) A hK hd (F:=fun i=>i<m.next) (N:=h.next) (fun i J=>by show i<m.next;omega) (by omega) S (show h.next<m.next by omega) T R2 (by omega) (fun h' k=>⟨rfl,Gx _ h' (fun _ y=>y) k⟩) K 0 h2 _ _ _ (by omega) (by omega) C2 (LwI.start U.1) (Av.refl _)
end Go.Ev
