import Derived.Test.YtoihakbgidodkaaGreatCa
set_option linter.all false
namespace Go.Ev
open Go.Proofs
set_option maxRecDepth 100000
variable {fz:Fz}{E:Nat->En}{Rx:Tv}{F T:Nat->Prop}{h h' h0 h1 h2 h3:Ab}{K b d i j m n q l0 ml zq:Nat}{S S':Mi}{x:Me}{cur:Nat->Int}{mm:EV->EV->EV->Ab->R}{k:EV->Ab->R}{Q:EV->Ab->Prop}{es:List Me}{Stop:Ab->Prop}{tm:Ay}{ex:Nat->Ab->List Nat->R}{ep:Int}{bl:List Nat}{v:EV}{P0:Fz->List (List Nat)->Prop}{disp:Nat->Option FT}
section
structure Co where
 S:Mi
 cur:Nat->Int
 By:Nat->Int
 es:List Me
 gen:Int
 ep:Int
 nx:Int
 st:Bool
structure Cb where
 c:Nat
 ar:Nat
 m:Nat
 b:Nat
 ml:Nat
 ll:Nat
def Cb.own(B:Cb)(i:Nat):Prop:=i=B.c\/i=B.ar\/i=B.b\/i=B.ml\/i=B.ll
def Cb.fr(B:Cb)(F:Nat->Prop)(i:Nat):Prop:=F i\/B.own i
def Co.cells(B:Cb)(X:Co):List EV:=[.ptr B.m 0,.ptr B.ar 0,.ptr B.b 0,I X.gen,I X.ep,I X.nx,.bool X.st]
structure Co.Wf(X:Co):Prop where
 rt:rtB X.S.g=true
 an:Aft X.S X.cur X.By
 sz:0<X.S.dr.dv.size
structure D6(h:Ab)(B:Cb)(X:Co)(F:Nat->Prop):Prop where
 M:C0 h B.m X.S (B.fr F)
 core:h.get B.c=some (.cells (X.cells B) 111)
 ar:h.get B.ar=some (.cells (arC B.m X.cur X.By) 126)
 map:Qs h B.b B.ml B.ll X.S.g X.es
 wf:X.Wf
 out:∀i,F i->¬B.own i
 hb:HB h
def A2b(E:Nat->En)(ep:Int)(es:List Me):Tv:=fun w o s=>∃(b:Nat) (x:Me),es[b]? = some x/\x.state=1/\Aom (E b) ep x w o s
def T1:Tv:=fun _ _ _=>False
structure CJ(fz:Fz)(E:Nat->En)(L:List (List Nat))(Rx:Tv)(X:Co):Prop where
 a:MW fz (Qa X.cur X.By) (orR (A2b E X.ep X.es) Rx) X.S
 en:∀(b:Nat) x,X.es[b]? = some x->(x=Me.nil 0/\L[b]? = some Di)\/(Avk X.S.g X.ep x (E b)/\¬(E b).kind=2/\L[b]? = some (E b).bytes)
 len:L.length=X.es.length
 nx:1<=X.nx/\X.nx<=281474976710656
 one:∀z z',fz.z z->fz.z z'->Cl X.S.g z=Cl X.S.g z'
def CI(fz:Fz)(L:List (List Nat))(Rx:Tv)(X:Co):Prop:=∃E,CJ fz E L Rx X
theorem CJ.Hp{L:List (List Nat)}{X:Co}(j:CJ fz E L Rx X){T:Mi}(g:T.g=X.S.g)(m:MW fz (Qa X.cur X.By) (orR (A2b E X.ep X.es) Rx) T):CJ fz E L Rx { X with S:=T }:=
 ⟨m,fun b x a=>(j.en b x a).imp id fun y=>⟨by show Avk T.g _ _ _;rw[g];exact y.1,y.2⟩,j.len,j.nx,fun z z' h h'=>by show Cl T.g z=Cl T.g z';rw[g];exact j.one z z' h h'⟩
theorem CI.Hp{L:List (List Nat)}{X:Co}(c:CI fz L Rx X){T:Mi}(m:Mk X.S T):CI fz L Rx { X with S:=T }:=by
 obtain⟨E,j⟩:=c;exact⟨E,j.Hp m.g (m.iv _ _ _ j.a)⟩
structure Ck(X Y:Co):Prop where
 m:Mk0 X.S Y.S
 iv:∀fz L,CI fz L T1 X->CI fz L T1 Y
theorem Ck.g {X Y:Co}(a:Ck X Y):Y.S.g=X.S.g:=a.m.g
theorem Ck.refl(X:Co):Ck X X:=⟨Mk0.refl _,fun _ _ a=>a⟩
theorem Ck.trans {X Y Z:Co}(a:Ck X Y)(b:Ck Y Z):Ck X Z:=⟨a.m.trans b.m,fun fz L c=>b.iv fz L (a.iv fz L c)⟩
structure G4(h h':Ab)(B:Cb)(X:Co)(F:Nat->Prop)(Y:Co):Prop where
 C:D6 h' B Y F
 k:Kf F h h'
 ck:Ck X Y
section
variable{B:Cb}{X Y:Co}{F':Nat->Prop}
theorem D6.ne(C:D6 h B X F):B.c≠B.ar/\B.c≠B.b/\B.c≠B.ml/\B.c≠B.ll/\B.ar≠B.b/\B.ar≠B.ml/\B.ar≠B.ll/\B.b≠B.ml/\B.b≠B.ll/\B.ml≠B.ll:=
 ⟨Bf C.core C.ar (by simp),Bf C.core C.map.map (by simp),Bf C.core C.map.row (by simp),Bf C.core C.map.live (by simp),Bf C.ar C.map.map (by simp),Bf C.ar C.map.row (by simp),Bf C.ar C.map.live (by simp),
  Bf C.map.map C.map.row (by simp),Bf C.map.map C.map.live (by simp),Bf C.map.row C.map.live (by simp)⟩
theorem D6.sm(C:D6 h B X F):Sm X.S.g:=C.M.wf.sm
theorem G4.refl(C:D6 h B X F):G4 h h B X F X:=⟨C,As.refl _,Ck.refl _⟩
theorem G4.trans{X Y Z:Co}(a:G4 h1 h2 B X F Y)(b:G4 h2 h3 B Y F Z):G4 h1 h3 B X F Z:=⟨b.C,a.k.trans b.k,a.ck.trans b.ck⟩
theorem G4.hb(a:G4 h h' B X F Y):HB h':=a.C.hb
theorem C0.kp(M:C0 h m S F)(k:Kp T h h'):C0 h' m S (Bi F h h'):=by
 refine⟨(M.s.frame k.chg.next fun i hi=>k.same i hi.1).mono (fun i hi=>⟨aL hi.1 k.chg.next,fun y=>?_⟩) fun i hi=>hi.1,Bi.lt M.lt k.chg.next,M.wf⟩;rcases y with y|y
 ·exact hi.2 y
 ·have:=hi.1;omega
theorem D6.kp(C:D6 h B X F)(k:Kp T h h'):D6 h' B X (Bi F h h'):=by
 refine⟨(C.M.kp k).less fun i hi=>?_,k.at C.hb C.core,k.at C.hb C.ar,C.map.ext fun i o g=>k.at C.hb g,C.wf,fun i hi=>?_,k.chg.hb C.hb⟩
 ·rcases hi with(hi|hi)|hi
  ·exact .inl (.inl hi)
  ·exact .inr hi
  ·exact .inl (.inr hi)
 ·rcases hi with hi|hi
  ·exact C.out i hi
  ·intro y
   have a:=C.hb _ _ C.core;have f:=C.hb _ _ C.ar;have a3:=C.hb _ _ C.map.map;have a4:=C.hb _ _ C.map.row;have p:=C.hb _ _ C.map.live;rcases y with y|y|y|y|y<;>omega
theorem D6.less(C:D6 h B X F)(s:∀i,F' i->F i):D6 h B X F':=
 ⟨C.M.less fun i hi=>hi.imp (s i) id,C.core,C.ar,C.map,C.wf,fun i hi=>C.out i (s i hi),C.hb⟩
theorem D6.ext(C:D6 h B X F)(x:Ext h h'):D6 h' B X (Bi F h h'):=C.kp (T:=fun _=>False) (Ext.kp x)
theorem D6.gN(C:D6 h B X F)(x:Ext h h'):G4 h h' B X F X:=⟨(C.ext x).less fun _=>.inl,Ext.kf x,Ck.refl _⟩
theorem D6.VT(C:D6 h B X F)(k:Kp T h h')(t:∀i,T i->¬F i):G4 h h' B X F X:=⟨(C.kp k).less fun _=>.inl,k.chg.mono t,Ck.refl _⟩
theorem Co.Wf.Hp(w:X.Wf)(mk:Mk0 X.S S'):({ X with S:=S' }:Co).Wf:=⟨by show rtB S'.g=true;rw[mk.g];exact w.rt,w.an.of mk.g,by show 0<S'.dr.dv.size;rw[mk.dr.size];exact w.sz⟩
theorem D6.vH(C:D6 h B X F)(f:C0 h' B.m S' (B.fr F))(k:Kf (B.fr F) h h')(a:HB h')(mk:Mk0 X.S S')(iv:∀fz L,CI fz L T1 X->CI fz L T1 { X with S:=S' }):G4 h h' B X F { X with S:=S' }:=by
 have g:S'.g=X.S.g:=mk.g;exact⟨⟨f,k.at C.hb C.core (.inr (.inl rfl)),k.at C.hb C.ar (.inr (.inr (.inl rfl))),by
  show Qs h' B.b B.ml B.ll S'.g X.es;rw[g];exact C.map.frame (k.get _ (C.hb _ _ C.map.map) fun y=>y (.inr (.inr (.inr (.inl rfl))))) (k.get _ (C.hb _ _ C.map.row) fun y=>y (.inr (.inr (.inr (.inr (.inl rfl)))))) (k.get _ (C.hb _ _ C.map.live) fun y=>y (.inr (.inr (.inr (.inr (.inr rfl)))))),
  C.wf.Hp mk,C.out,a⟩,k.less fun _=>.inl,⟨mk,iv⟩⟩
theorem D6.Hp(C:D6 h B X F)(f:C0 h' B.m S' (B.fr F))(k:Kf (B.fr F) h h')(a:HB h')(mk:Mk X.S S'):G4 h h' B X F { X with S:=S' }:=C.vH f k a mk.toMk0 fun _ _ c=>c.Hp mk
theorem D6.VU(C:D6 h B X F){cur' old':Nat->Int}(p:C0 h' B.m S' (B.fr F))(t:h'.get B.ar=some (.cells (arC B.m cur' old') 126))(c:As (fun j=>¬B.fr F j\/j=B.ar) h h')(f:HB h')(mk:Mk0 X.S S')(an:Aft S' cur' old')(iv:∀fz R,MW fz (Qa X.cur X.By) R X.S->MW fz (Qa cur' old') R S'):
 G4 h h' B X F { X with S:=S',cur:=cur',By:=old' }:=by
 have g:S'.g=X.S.g:=mk.g;obtain⟨u,U,n3,n4,D,G,J,V,n9,M⟩:=C.ne;have kp:∀i,B.own i->i≠B.ar->¬(¬B.fr F i\/i=B.ar):=fun i hi O y=>y.elim (fun y=>y (.inr hi)) O
 exact⟨⟨p,c.at C.hb C.core (kp _ (.inl rfl) u),t,by
  show Qs h' B.b B.ml B.ll S'.g X.es;rw[g];exact C.map.frame (c.get _ (C.hb _ _ C.map.map) (kp _ (.inr (.inr (.inl rfl))) D.symm)) (c.get _ (C.hb _ _ C.map.row) (kp _ (.inr (.inr (.inr (.inl rfl)))) G.symm)) (c.get _ (C.hb _ _ C.map.live) (kp _ (.inr (.inr (.inr (.inr rfl)))) J.symm)),
  ⟨by show rtB S'.g=true;rw[g];exact C.wf.rt,an,by show 0<S'.dr.dv.size;rw[mk.dr.size];exact C.wf.sz⟩,C.out,f⟩,
  c.mono fun i hi y=>hi.elim (fun w=>w (.inl y)) fun w=>C.out i y (w▸.inr (.inl rfl)),⟨mk,fun fz L ⟨E,j⟩=>⟨E,iv _ _ j.a,fun b x P=>(j.en b x P).imp id fun y=>⟨by show Avk S'.g _ _ _;rw[g];exact y.1,y.2⟩,j.len,j.nx,fun z z' h h'=>by show Cl S'.g z=Cl S'.g z';rw[g];exact j.one z z' h h'⟩⟩⟩
theorem D6.sv(C:D6 h B X F){a:List Me}(mp:Qs h' B.b B.ml B.ll X.S.g a)(c:As (fun i=>i=B.ml\/i=B.ll) h h')(f:HB h'):D6 h' B { X with es:=a } F/\Kf F h h':=by
 obtain⟨G,J,n3,n4,O,t,u,P,U,D⟩:=C.ne;have p:∀i,i=B.ml\/i=B.ll->B.own i:=fun i hi=>hi.elim (fun y=>.inr (.inr (.inr (.inl y)))) fun y=>.inr (.inr (.inr (.inr y)))
 exact⟨⟨C.M.iC c fun i hi _=>.inr (p i hi),c.at C.hb C.core fun y=>y.elim n3 n4,c.at C.hb C.ar fun y=>y.elim t u,mp,⟨C.wf.rt,C.wf.an,C.wf.sz⟩,C.out,f⟩,c.mono fun i hi y=>C.out i y (p i hi)⟩
theorem D6.pZ(C:D6 h B X F)(g e n:Int)(s:Bool)(iv:∀fz L,CI fz L T1 X->CI fz L T1 { X with gen:=g,ep:=e,nx:=n,st:=s }):G4 h (h.put B.c (.cells (({ X with gen:=g,ep:=e,nx:=n,st:=s }:Co).cells B) 111)) B X F { X with gen:=g,ep:=e,nx:=n,st:=s }:=by
 obtain⟨a,f,n3,n4,t,u,D,G,J,p⟩:=C.ne;have l:=C.hb _ _ C.core;have c:As (fun i=>i=B.c) h (h.put B.c (.cells (({ X with gen:=g,ep:=e,nx:=n,st:=s }:Co).cells B) 111)):=(As.refl (S:=fun i=>i=B.c) h).Aq (.inl rfl) l _;exact⟨⟨C.M.iC c fun i hi _=>.inr (.inl hi),Ae _ _ _,by rw[Af _ a];exact C.ar,C.map.frame (Af _ f) (Af _ n3) (Af _ n4),⟨C.wf.rt,C.wf.an,C.wf.sz⟩,C.out,C.hb.put l _⟩,c.mono fun i hi y=>C.out i y (.inl hi),⟨Mk0.refl _,iv⟩⟩
theorem D6.iC(C:D6 h B X F)(c:As T h h')(t:∀i,T i->i<h.next->F i)(a:HB h'):D6 h' B X F:=by
 have no:∀i,B.own i->i<h.next->¬T i:=fun i hi f y=>C.out i (t i y f) hi
 have l1:=C.hb _ _ C.core;have G:=C.hb _ _ C.ar;have p:=C.hb _ _ C.map.map;have u:=C.hb _ _ C.map.row;have D:=C.hb _ _ C.map.live;exact⟨C.M.iC c fun i hi f=>.inl (t i hi f),c.at C.hb C.core (no _ (.inl rfl) l1),c.at C.hb C.ar (no _ (.inr (.inl rfl)) G),
  C.map.frame (c.get _ p (no _ (.inr (.inr (.inl rfl))) p)) (c.get _ u (no _ (.inr (.inr (.inr (.inl rfl)))) u)) (c.get _ D (no _ (.inr (.inr (.inr (.inr rfl)))) D)),C.wf,C.out,a⟩
end
section
variable{B:Cb}{X:Co}(C:D6 h B X F)
include C
theorem D6.hJ(k:EV->R):Ec (.ptr B.c 0) h k=k (.ptr B.m 0):=Al C.core rfl rfl
theorem D6.Jg(k:EV->R):Ec (.ptr B.c 1) h k=k (.ptr B.ar 0):=Al C.core rfl rfl
theorem D6.jC(k:EV->R):Ec (.ptr B.c 2) h k=k (.ptr B.b 0):=Al C.core rfl rfl
theorem D6.BC(k:EV->R):Ec (.ptr B.c 3) h k=k (I X.gen):=Al C.core rfl rfl
theorem D6.BD(k:EV->R):Ec (.ptr B.c 4) h k=k (I X.ep):=Al C.core rfl rfl
theorem D6.lC(k:EV->R):Ec (.ptr B.c 5) h k=k (I X.nx):=Al C.core rfl rfl
theorem D6.VV(k:EV->R):Ec (.ptr B.c 6) h k=k (.bool X.st):=Al C.core rfl rfl
end
end
variable {X Y Z:Co}{B:Cb}
section
theorem VW:(Fa TT 39 0).2.1 = [8]:=by kernel_rfl
theorem VX {a b:EV}(hj:j<2)(k:EV->R):jX 2 1 false 1 (.agg [a,b]) (I j) k=k (if j=0 then a else b):=by
 rcases j with _|_|j<;>first|rfl|omega
theorem VY {a:Nat->Int}{o:Nat->Int}(hi:i<3)(k:EV->R):jX 3 2 true 2 (.agg [I (a 0),I (o 0),I (a 1),I (o 1),I (a 2),I (o 2)]) (I i) k=k (.agg [I (a i),I (o i)]):=by
 rcases i with _|_|_|i<;>first|rfl|omega
def Tn(x z:Int):Bool:=decide (¬x = -1)&&decide (x=z)
theorem VZ {x z:Int}(h:¬x=z):Tn x z=false:=by unfold Tn;rw[aU h,eC]
theorem V_ {x z:Int}(h:¬x = -1)(e:x=z):Tn x z=true:=by unfold Tn;rw[aR h,aR e];rfl
def mo(cur By:Nat->Int)(z:Int):Nat->Bool
 | 0=>false
 | i+1=>mo cur By z i||(Tn (cur i) z||Tn (By i) z)
def iZ(cur By:Nat->Int)(z:Int):Bool:=mo cur By z 3
theorem BE {By:Nat->Int}{z:Int}(hi:i<=3)(h:mo cur By z i=true):iZ cur By z=true:=by
 have st:∀i,mo cur By z i=true->mo cur By z (i+1)=true:=fun i h=>by
  show(mo cur By z i||(Tn (cur i) z||Tn (By i) z))=true;rw[h];rfl
 unfold iZ;rcases i with _|_|_|_|i
 ·cases h
 ·exact st _ (st _ h)
 ·exact st _ h
 ·exact h
 ·omega
structure lK(h:Ab)(l0 d0:Nat)(tm:Ay)(b3 b4:Nat)(z:Int)(found:Bool):Prop where
 lp:h.get l0=some (Aw TT 39 12 0 tm (if found then .done else .ready) (if found then some .ret else none) d0)
 c3:h.get b3=some (.cells [I z] 3)
 c4:h.get b4=some (.cells [.bool found] 4)
 hb:HB h
section
variable (H:Cf disp){d0 b3 b4:Nat}{z:Int}(t3:tmp tm 3=.ptr b3 0)(t4:tmp tm 4=.ptr b4 0)
include H t3 t4
theorem WA {e:Nat}(he:1<=e){x:Int}(M:lK h l0 d0 tm b3 b4 z false):
 ∃h',Ag TT disp K (e+1) true l0 [I x] h=some (.bool (decide (¬x=z)),h')/\lK h' l0 d0 tm b3 b4 z (decide (x=z))/\As (fun j=>j=l0\/j=b4) h h':=by
 have G:=M.lp;simp only[aV,ak]at G;have p:=G;have P:=M.c3;have O:=M.c4;have hb:=M.hb;unfold Aw at p;rw[VW]at p;rw[WB H he tm h (I x) p,t3,t4];have J:=hb _ _ G;have aa:=hb _ _ O;have t:l0≠b3:=Bf G P (by simp[Aw]);have a:l0≠b4:=Bf G O (by simp[Aw]);have n34:b3≠b4:=Bf P O (by simp[I]);simp only[BF,Zg G,Zc,dr];have f:(h.put l0 (Aw TT 39 12 0 tm .busy none d0)).get b3=some (.cells [I z] 3):=by rw[Af _ t];exact P
 have u:(h.put l0 (Aw TT 39 12 0 tm .busy none d0)).get b4=some (.cells [.bool false] 4):=by rw[Af _ a];exact O
 have y:(h.put l0 (Aw TT 39 12 0 tm .busy none d0)).get l0=some (Aw TT 39 12 0 tm .busy none d0):=Ae _ _ _;have U:As (fun j=>j=l0\/j=b4) h (h.put l0 (Aw TT 39 12 0 tm .busy none d0)):=(As.refl h).Aq (.inl (.inl rfl)) J _;have D:HB (h.put l0 (Aw TT 39 12 0 tm .busy none d0)):=hb.put J _;have n1:(h.put l0 (Aw TT 39 12 0 tm .busy none d0)).next=h.next:=rfl
 generalize h.put l0 (Aw TT 39 12 0 tm .busy none d0)=h1 at f u y U D n1⊢;simp only[Cx f rfl,Aa,I,Ac];by_cases V:x=z
 ·simp only[V,aB,Aa,aC,aA]
  rw[ly (o:=0) (n:=1) (v:=.bool true) (l':=[.bool true]) u rfl rfl rfl,Rc (by rw[Af _ (cX a)];exact y)];exact⟨_,rfl,⟨Ae _ _ _,by rw[Af _ t,Af _ (cX n34)];exact f,by rw[Af _ a];exact Ae _ _ _,(D.put a_ _).put (by rw[Ab.P9];omega) _⟩,(U.Aq (.inl (.inr rfl)) a_ _).Aq (.inl (.inl rfl)) (by rw[Ab.P9];omega) _⟩
 ·simp only[V,aA,Aa,aG,aB]
  rw[Rc y];exact⟨_,rfl,⟨Ae _ _ _,by rw[Af _ t];exact f,by rw[Af _ a];exact u,D.put a_ _⟩,U.Aq (.inl (.inl rfl)) a_ _⟩
def p'(h:Ab)(l0 d0:Nat)(tm:Ay)(b3 b4:Nat)(z:Int)(f:Bool):EV->Ab->Prop:=fun _ h'=>lK h' l0 d0 tm b3 b4 z f/\As (fun j=>j=l0\/j=b4) h h'
theorem WC {e:Nat}(he:2<=e){v10 v11:EV}{x y:Int}{f:Bool}(M:Tn x z=true->f=true)(O:Tn y z=true->f=true)
 (hk:Tn x z=false->Tn y z=false->∀h,lK h l0 d0 tm b3 b4 z false->As (fun j=>j=l0\/j=b4) h0 h->Ok (Ko (Ag TT disp K e false) (Ag TT disp K e true) K mm (.Vh l0) v10 v11 h) (p' h0 l0 d0 tm b3 b4 z f)) :
 ∀(m j:Nat) (h:Ab),2-j<m->j<=2->(1<=j->Tn x z=false)->(2<=j->Tn y z=false)->lK h l0 d0 tm b3 b4 z false->As (fun j=>j=l0\/j=b4) h0 h ->
  Ok (Ee (Ag TT disp K e false) (Ag TT disp K e true) K mm m (.Vh l0) v10 v11 (.agg [I x,I y]) (I j) h) (p' h0 l0 d0 tm b3 b4 z f):=by
 intro m;induction m with
 | zero=>intro j h hm;omega
 | succ m ih=>
  intro j h hm hj jx jy P J;rw[Ee];simp only[I,Ac];by_cases U:j<2
  ·have e3:decide ((j:Int)<2)=true:=by simp;omega
   simp only[e3,Aa,BG];have pv:=fun k=>VX (a:=I x) (b:=I y) U k
   simp only[I]at pv;rw[pv];have go:∀v:Int,(Tn v z=true->f=true)->(Tn v z=false->(1<=j+1->Tn x z=false)/\(2<=j+1->Tn y z=false))->Ok (K1 iK (bin TT .neq 3) (.int .i64 v) (.int .i64 (-1)) fun t=>Bc (E4 t true)
    (Ao (T5 (Ag TT disp K e false) (Ag TT disp K e true) (.Vh l0) [.int .i64 v] h) fun V h=>i_ V fun aa=>Ig (Ag TT disp K e false) (Ag TT disp K e true) K mm (Ee (Ag TT disp K e false) (Ag TT disp K e true) K mm m) (.Vh l0) v10 v11 (.agg [.int .i64 x,.int .i64 y]) (.int .i64 (j:Int)) t aa h)
    (Ig (Ag TT disp K e false) (Ag TT disp K e true) K mm (Ee (Ag TT disp K e false) (Ag TT disp K e true) K mm m) (.Vh l0) v10 v11 (.agg [.int .i64 x,.int .i64 y]) (.int .i64 (j:Int)) t (.tuple []) h)) (p' h0 l0 d0 tm b3 b4 z f):=by
    intro v ad G;have nx:Tn v z=false->∀h2,lK h2 l0 d0 tm b3 b4 z false->As (fun j=>j=l0\/j=b4) h0 h2->Ok (Ul (Ag TT disp K e false) (Ag TT disp K e true) K mm (Ee (Ag TT disp K e false) (Ag TT disp K e true) K mm m) (.Vh l0) v10 v11 (.agg [.int .i64 x,.int .i64 y]) (.int .i64 (j:Int)) h2) (p' h0 l0 d0 tm b3 b4 z f):=by
     intro p h2 u c2;simp only[Ul,Ac];rw[Cn,show((j:Nat):Int)+1=((j+1:Nat):Int) from a_];exact ih (j+1) h2 a_ a_ (G p).1 (G p).2 u c2
    simp only[Ac];by_cases h1:v = -1
    ·simp only[h1,aC,aA,Aa,Ac,Ig]
     exact nx (by unfold Tn;rw[aU (fun y=>y h1),a8]) h P J
    ·have ae:=h1
     simp only[h1,aG,aB,Aa,Ac];obtain⟨e,rfl⟩:=fc e;obtain⟨h2,r1,u,c2⟩:=WA (K:=K) H t3 t4 (e:=e) a_ (x:=v) P;have hc:T5 (Ag TT disp K (e+1) false) (Ag TT disp K (e+1) true) (.Vh l0) [.int .i64 v] h=some (.bool (decide (¬v=z)),h2):=r1;rw[hc,Ar];by_cases D:v=z
     ·have hf:=ad (V_ ae D)
      simp only[D,aB]at u;simp only[D,aC,aA,Aa,Ig];rw[hf];exact .ret ⟨u,J.trans c2⟩
     ·have p:=VZ D
      simp only[D,aA]at u;simp only[D,aG,aB,Aa,Ig];exact nx p h2 u (J.trans c2)
   rcases j with _|_|j
   ·exact go x M fun p=>⟨fun _=>p,fun y=>a_⟩
   ·exact go y O fun p=>⟨fun _=>jx a_,fun _=>p⟩
   ·omega
  ·have:j=2:=a_
   subst this;simp only[show decide (((2:Nat):Int)<2)=false from rfl,Aa];exact hk (jx a_) (jy a_) h P J
theorem WD {e:Nat}(hK:5<K)(he:2<=e){By:Nat->Int}:∀(m i:Nat) (h:Ab),3-i<m->i<=3->mo cur By z i=false->lK h l0 d0 tm b3 b4 z false->As (fun j=>j=l0\/j=b4) h0 h ->
 Ok (Gg (Ag TT disp K e false) (Ag TT disp K e true) K m (.Vh l0) (.agg [I (cur 0),I (By 0),I (cur 1),I (By 1),I (cur 2),I (By 2)]) (I i) h) (p' h0 l0 d0 tm b3 b4 z (iZ cur By z)):=by
 intro m;induction m with
 | zero=>intro i h hm;omega
 | succ m O=>
  intro i h hm hi p f G;rw[Gg];unfold I;simp only[Ac];by_cases u:i<3
  ·have e3:decide ((i:Int)<3)=true:=by simp;omega
   simp only[e3,Aa,BH];have J:=fun k=>VY (a:=cur) (o:=By) u k
   simp only[I]at J;rw[J]
   try simp only[Aa]
   refine Ok.mk rfl rfl fun h2 t M _=>?_
   have P:lK h2 l0 d0 tm b3 b4 z false:=⟨t.at f.hb f.lp,t.at f.hb f.c3,t.at f.hb f.c4,t.hb f.hb⟩;rw[Al M rfl (v:=I (cur i)) rfl,Al M rfl (v:=I (By i)) rfl,Ax (l:=[I (cur i),I (By i)]) rfl];refine WC (K:=K) H t3 t4 he (fun D=>BE (i:=i+1) a_ (by show(_||(Tn (cur i) z||Tn (By i) z))=true;rw[D];simp)) (fun D=>BE (i:=i+1) a_ (by show(_||(Tn (cur i) z||Tn (By i) z))=true;rw[D];simp)) ?_ K 0 h2 a_ a_ (fun y=>by omega) (fun y=>by omega) P (G.trans (Ext.to t));intro U V h3 I3 c3;simp only[Ko,Ac];rw[Cn,show((i:Nat):Int)+1=((i+1:Nat):Int) from a_];exact O (i+1) h3 a_ a_ (by show(mo cur By z i||(Tn (cur i) z||Tn (By i) z))=false;rw[p,U,V];rfl) I3 c3
  ·have:i=3:=a_
   subst this;simp only[show decide (((3:Nat):Int)<3)=false from rfl,Aa];rw[show iZ cur By z=false from p];exact .ret ⟨f,G⟩
end
section
variable (H:Cf disp)
include H
theorem BI(hd:5<=d)(hK:1000<K){ar:Nat}{By:Nat->Int}(hA:h.get ar=some (.cells (arC m cur By) 126))(hb:HB h)(z:Int):
 Ok (Ag TT disp K d false 39 [.ptr ar 0,I z] h) fun v h'=>v=.bool (iZ cur By z)/\Ext h h'/\HB h':=by
 obtain⟨e,rfl⟩:∃k,d=k+2:=⟨d-2,a_⟩;rw[WE H a_];simp only[BJ,I,Aa,vI];have U:Ext h (((h.new (.cells [.int .i64 z] 3)).new (.cells [.bool false] 4)).new (.cells [.ptr ar 0] 60)):=((As.new _ _).Dn _).Dn _;have n1:(((h.new (.cells [.int .i64 z] 3)).new (.cells [.bool false] 4)).new (.cells [.ptr ar 0] 60)).next=h.next+3:=rfl
 have gb:(((h.new (.cells [.int .i64 z] 3)).new (.cells [.bool false] 4)).new (.cells [.ptr ar 0] 60)).get (h.next+2)=some (.cells [.ptr ar 0] 60):=Ad _ _;have g4:(((h.new (.cells [.int .i64 z] 3)).new (.cells [.bool false] 4)).new (.cells [.ptr ar 0] 60)).get (h.next+1)=some (.cells [.bool false] 4):=by
  rw[Ba _ (aT _)];exact Ad _ _
 have g3:(((h.new (.cells [.int .i64 z] 3)).new (.cells [.bool false] 4)).new (.cells [.ptr ar 0] 60)).get h.next=some (.cells [I z] 3):=by
  rw[Ba _ (show h.next<h.next+2 from a_),Ba _ (show h.next<h.next+1 from a_)];exact Ad _ _
 rw[show((h.new (.cells [.int .i64 z] 3)).new (.cells [.bool false] 4)).next=h.next+2 from rfl,show(h.new (.cells [.int .i64 z] 3)).next=h.next+1 from rfl];generalize ((h.new (.cells [.int .i64 z] 3)).new (.cells [.bool false] 4)).new (.cells [.ptr ar 0] 60)=h1 at U n1 gb g4 g3⊢;have t:=U.hb hb;generalize y:((((((Tr.nil.put 0 (some (EV.ptr ar 0))).put 1 (some (EV.int .i64 z))).put 3 (some (EV.ptr h.next 0))).put 4 (some (EV.ptr (h.next+1) 0))).put 6 (some (EV.ptr ar 0))).put 7 (some (EV.func 119 [] [EV.ptr (h.next+2) 0])))=tm;have t3:tmp tm 3=.ptr h.next 0:=by rw[<-y];simp only[Iu,reduceIte,Nat.reduceEqDiff]
 have t4:tmp tm 4=.ptr (h.next+1) 0:=by rw[<-y];simp only[Iu,reduceIte,Nat.reduceEqDiff]
 clear y;refine Ok.range ?_;rw[WG H (cF _)];simp only[BK,dr];have D:Ext h1 (Cd TT 39 12 0 tm h1):=Jd;have k0:(Cd TT 39 12 0 tm h1).get h1.next=some (.deferred true):=La
 have k1:(Cd TT 39 12 0 tm h1).get (h1.next+1)=some (Aw TT 39 12 0 tm .ready none h1.next):=Ju;generalize Cd TT 39 12 0 tm h1=h3 at D k0 k1⊢;have O:=D.hb t;have aa:h3.get ar=some (.cells (arC m cur By) 126):=D.at t (U.at hb hA);rw[Al (D.at t gb) rfl (v:=.ptr ar 0) rfl];simp only[Aa];rw[Cu aa rfl (show Ly (arC m cur By) 1 6=some [I (cur 0),I (By 0),I (cur 1),I (By 1),I (cur 2),I (By 2)]from rfl)];have I3:lK h3 (h1.next+1) h1.next tm h.next (h.next+1) z false:=⟨k1,D.at t g3,D.at t g4,O⟩
 refine(WD (K:=K) H t3 t4 a_ (e:=e) a_ (cur:=cur) (By:=By) K 0 h3 a_ a_ rfl I3 (As.refl _)).mono ?_;rintro _ h4 ⟨u,c4⟩;generalize iZ cur By z=b at u⊢;have V:=u.hb _ _ u.lp;have kd:h4.get h1.next=some (.deferred true):=c4.at O k0 a_
 have x4:Ext h h4:=(U.trans D).then c4 fun i hi a=>a_
 have l5:=u.hb _ _ u.c4;have f:∀(G:Ab) (b:Bool),G.get (h.next+1)=some (.cells [.bool b] 4)->Iq TT [.c (.ptr (h.next+1) 0) 4] G=some (.bool b,G):=by
  intro G b hg;have hr:I6 G (h.next+1) 0 1=some [.bool b]:=by unfold I6;rw[hg];rfl
  unfold Iq;simp only[jV,show TT.size 4=some 1 by kernel_rfl,show TT.agg 4=some false by kernel_rfl,hr]
 have lp:=u.lp;cases b with
 | true=>
  simp only[bN]at lp;refine .inr ⟨lp,?_⟩;have p:HB (h4.put (h1.next+1) (Aw TT 39 12 0 tm .exhausted (some .ret) h1.next)):=u.hb.put V _;refine Ok.unwind (cA.2 ⟨by simp,dE⟩) (fun d hd=>by rw[aN]at hd;subst hd;rw[Af _];exact kd) p fun P J _=>?_
  have g6:P.get (h.next+1)=some (.cells [.bool true] 4):=As.at J p (by rw[Af _];exact u.c4) (by rw[aN];omega);rw[f P true g6];exact .ret ⟨rfl,(x4.Aq (.inr a_) V _).then J fun i hi a=>by rw[aN]at hi;omega,J.hb p⟩
 | false=>
  simp only[aV,ak]at lp;refine .inl ⟨lp,?_⟩;simp only[Xh,dr];have p:HB (h4.put (h1.next+1) (Aw TT 39 12 0 tm .exhausted none h1.next)):=u.hb.put V _;have g5:(h4.put (h1.next+1) (Aw TT 39 12 0 tm .exhausted none h1.next)).get (h.next+1)=some (.cells [.bool false] 4):=by rw[Af _];exact u.c4
  have x5:Ext h (h4.put (h1.next+1) (Aw TT 39 12 0 tm .exhausted none h1.next)):=x4.Aq (.inr a_) V _;have d5:(h4.put (h1.next+1) (Aw TT 39 12 0 tm .exhausted none h1.next)).get h1.next=some (.deferred true):=by rw[Af _];exact kd
  generalize h4.put (h1.next+1) (Aw TT 39 12 0 tm .exhausted none h1.next)=G at p g5 x5 d5⊢;have l6:=p _ _ g5;refine Ok.gK g5 rfl rfl (by show 0<1;decide) ?_;have M:HB (G.put (h.next+1) (.cells ([EV.bool false].set 0 (.bool false)) 4)):=p.put l6 _;refine Ok.unwind (cA.2 ⟨by simp,dE⟩) (fun d hd=>by rw[aN]at hd;subst hd;rw[Af _];exact d5) M fun P J _=>?_
  have g6:P.get (h.next+1)=some (.cells [.bool false] 4):=As.at J M (Ae _ _ _) (by rw[aN];omega);rw[f P false g6];exact .ret ⟨rfl,(x5.Aq (.inr a_) l6 _).then J fun i hi a=>by rw[aN]at hi;omega,J.hb M⟩
end
end
section
theorem WH(A:Cf disp)(hK:10000<K)(M:C0 h m S F)(hb:HB h)(hd:7<=d)(z:Int)
 (hk:∀h' T,Kp T h h'->(∀i,T i->¬F i)->HB h'->Ok (k (.bool (hasB S.ps S.g.D.toNat z)) h') Q):Ok (Ao (Ci K (.ptr m 0) h) fun v h=>Ao (Ag TT disp K d false 66 [v,I z] h) k) Q:=by
 obtain⟨lt,D,p,bl,ql,np,q,c,G,a⟩:=M.s;rw[Xx a.Hp,Ar];have f:=a.psz.nd;obtain⟨b1,b2,b3⟩:=a.psz.bd;subst f;refine(BL (K:=K) A a.Ed hb a.psz.cap a_ a_ hd a_ z).Ao ?_;rintro _ h' ⟨rfl,u,t⟩;refine hk h' _ u (fun i hi y=>?_) t;obtain⟨d,hd,rfl⟩:=hi;exact(a.sub.2.2.2.2.2 d hd).2.2 y
theorem WI(hK:10000<K)(M:C0 h m S F)(hb:HB h)
 (hk:∀h',Ext h h'->Ok (k (I (Zv S.ps S.g.D.toNat)) h') Q):Ok (Ao (Ci K (.ptr m 0) h) fun v h=>Ao (Ik K v h) k) Q:=by
 obtain⟨lt,D,p,bl,ql,np,q,c,G,a⟩:=M.s;rw[Xx a.Hp,Ar];have f:=a.psz.nd;subst f;refine(BM (K:=K) a.Ed hb a.psz.small).Ao ?_;rintro _ h' ⟨rfl,x⟩;exact hk h' x
structure Qt(F:Nat->Prop)(h h':Ab):Prop where
 Mh:∃T,Kp T h h'/\∀i,T i->¬F i
 hb:HB h'
theorem Qt.refl(hb:HB h):Qt F h h:=⟨⟨fun _=>False,Kp.refl _,fun _ y=>y.elim⟩,hb⟩
theorem Qt.ext(x:Ext h h')(hb:HB h):Qt F h h':=⟨⟨fun _=>False,Ext.kp x,fun _ y=>y.elim⟩,x.hb hb⟩
theorem Qt.trans{a b c:Ab}(x:Qt F a b)(y:Qt F b c):Qt F a c:=by
 obtain⟨⟨T,k,t⟩,_⟩:=x;obtain⟨⟨U,l,u⟩,hb⟩:=y;refine⟨⟨fun i=>T i\/U i,Kp.trans ⟨k.chg.mono fun i=>.inl,k.same⟩ ⟨l.chg.mono fun i=>.inr,l.same⟩,fun i hi=>hi.elim (t i) (u i)⟩,hb⟩
theorem D6.rd(C:D6 h B X F)(r:Qt F h h'):G4 h h' B X F X:=by
 obtain⟨⟨T,k,t⟩,_⟩:=r;exact C.VT k t
theorem Qt.next(r:Qt F h h'):h.next<=h'.next:=by
 obtain⟨⟨T,k,t⟩,_⟩:=r;exact k.chg.next
def Co.closed(X:Co)(z:Int):Bool:=decide (0<=Cl X.S.g z)&&(decide (¬z=X.S.a)&&(decide (¬z=X.S.b)&&(!X.S.It z&&(!iZ X.cur X.By z&&!hasB X.S.ps X.S.g.D.toNat z))))
theorem vJ(A:Cf disp)(hK:10000<K)(C:D6 h B X F)(hd:8<=d){z:Int}(J:Vp z):Ok (Ag TT disp K d false 27 [.ptr B.c 0,I z] h) fun v h'=>v=.bool (X.closed z)/\Qt F h h':=by
 obtain⟨e,rfl⟩:=fc d;rw[WJ A a_];simp only[BN,Aa];rw[C.hJ,WK C.M]
 try simp only[Aa]
 rw[C.hJ];refine(O8 (K:=K) C.M C.hb).Ao ?_;rintro _ h2 ⟨rfl,x2⟩;refine(Hv (K:=K) C.sm z J h2).Ao ?_;rintro _ h3 ⟨rfl,x3⟩;have x:Ext h h3:=x2.trans x3;have f:=(C.gN x).C;have t:Qt F h h3:=Qt.ext x C.hb;unfold Co.closed;simp only[I,Ac];have ag:E4 (.tuple []) false=false/\E4 (.tuple []) true=false:=⟨rfl,rfl⟩;by_cases c1:0<=Cl X.S.g z
 case neg=>
  simp only[c1,aA,Aa,Ac,Ud,Om,H9,Gf,Ff,a8];exact .ret ⟨rfl,t⟩
 simp only[c1,aB,Aa,Ac,Ud,bG];by_cases c2:z=X.S.a
 ·simp only[c2,aC,aA,Aa,Ac,Om,H9,Gf,Ff,a8]
  exact .ret ⟨rfl,t⟩
 simp only[c2,aG,aB,Aa,Ac,Om,bG];by_cases c3:z=X.S.b
 ·simp only[c3,aC,aA,Aa,Ac,H9,Gf,Ff,a8]
  exact .ret ⟨rfl,t⟩
 simp only[c3,aG,aB,Aa,Ac,bG];rw[f.hJ];refine(N8 (K:=K) f.M.s f.hb J).Ao ?_;rintro _ h4 ⟨rfl,O⟩;have P:Qt F h h4:=t.trans (Qt.ext O f.hb);have p:=(f.gN O).C;cases X.S.It z with
 | true=>
  simp only[Aa,Ac,H9,Gf,Ff,eR,a8];exact .ret ⟨rfl,P⟩
 | false=>
 simp only[Aa,Ac,H9,dF,bG];rw[p.Jg];have U:=BI (K:=K) A (d:=e) a_ a_ p.ar p.hb z;simp only[I]at U;refine U.Ao ?_;rintro _ h5 ⟨rfl,V,_⟩;have r5:Qt F h h5:=P.trans (Qt.ext V p.hb);have u:=(p.gN V).C;cases iZ X.cur X.By z with
 | true=>
  simp only[Aa,Ac,Gf,Ff,eR,a8];exact .ret ⟨rfl,r5⟩
 | false=>
 simp only[Aa,Ac,Gf,dF,bG];rw[u.hJ];refine WH A hK u.M u.hb (d:=e) a_ z fun h6 T k6 t6 G=>?_
 have r6:Qt F h h6:=r5.trans ⟨⟨T,k6,fun i hi y=>t6 i hi (.inl y)⟩,G⟩;cases hasB X.S.ps X.S.g.D.toNat z with
 | true=>
  simp only[Aa,Ac,Ff,eR];exact .ret ⟨rfl,r6⟩
 | false=>
  simp only[Aa,Ac,Ff,dF];exact .ret ⟨rfl,r6⟩
def Co.dead(X:Co)(z:Int):Bool:=X.closed z&&decide (mg X.S.g X.es z=0)
theorem BO(A:Cf disp)(hK:10000<K)(C:D6 h B X F)(hd:9<=d){z:Int}(p:Vp z):Ok (Ag TT disp K d false 55 [.ptr B.c 0,I z] h) fun v h'=>v=.bool (X.dead z)/\Qt F h h':=by
 obtain⟨e,rfl⟩:=fc d;rw[WL A a_];simp only[BP,Aa];refine(vJ A hK C (d:=e) a_ p).Ao ?_;rintro _ h2 ⟨rfl,a⟩;have f:=(C.rd a).C;unfold Co.dead;have t:E4 (.tuple []) false=false/\E4 (.tuple []) true=false:=⟨rfl,rfl⟩;cases X.closed z with
 | false=>
  simp only[Aa,Ac,W9,a8];exact .ret ⟨rfl,a⟩
 | true=>
  simp only[Aa,Ac,bG];rw[f.jC,u5 f.map];simp only[Aa,I,Ac,W9];exact .ret ⟨rfl,a⟩
theorem Sm.mq {g:Gm}(s:Sm g):3<=g.D*g.Z/\g.D*g.Z<=512:=by
 have:=s.d0;have:=s.d1;have:=s.z0;have:=s.z1;obtain⟨f,p⟩:=Nz (a:=g.D) (b:=g.Z) (A:=8) (B:=64);have:g.D*1<=g.D*g.Z:=dZ a_ a_;omega
theorem p_(A:Cf disp)(C:D6 h B X F)(hk:∀h',Ext h h'->Ok (k (I (X.S.g.D*X.S.g.Z)) h') Q):Ok (Ao (Ca K (.ptr B.m 0) h) fun v h=>Ao (Dq K v h) k) Q:=by
 refine(O8 (K:=K) C.M C.hb).Ao ?_;rintro _ h2 ⟨rfl,a⟩;rw[No C.sm,Ar];exact hk _ (a.Dn _)
theorem WM(A:Cf disp)(hK:10000<K)(J:X.S.g.D*X.S.g.Z=n)(hd:9<=d):∀(f i:Nat) (h:Ab),n-i<f->i<=n->D6 h B X F ->
 Ok (Nj (Ag TT disp K d false) (Ag TT disp K d true) K f (.ptr B.c 0) (I n) (I i) h) fun v h'=>(∃b,v=.bool b)/\Qt F h h':=by
 intro f;induction f with
 | zero=>intro i h t;omega
 | succ f u=>
  intro i h t hi C;have bd:=C.sm.mq;rw[Nj];simp only[I,Ac];by_cases y:i<n
  ·have:decide ((i:Int)<(n:Int))=true:=by simp;omega
   simp only[this,Aa,BQ];refine(BO A hK C hd (z:=i) ⟨a_,a_⟩).Ao ?_;rintro _ h2 ⟨rfl,p⟩;cases X.dead i with
   | true=>
    simp only[Aa];exact .ret ⟨⟨_,rfl⟩,p⟩
   | false=>
    simp only[Aa,BR,Ac];rw[Cn,show((i:Nat):Int)+1=((i+1:Nat):Int) from a_];refine(u (i+1) h2 a_ a_ (C.rd p).C).mono ?_;rintro v h3 ⟨a,G⟩;exact⟨a,p.trans G⟩
  ·have:decide ((i:Int)<(n:Int))=false:=by simp;omega
   simp only[this,Aa,BS];exact .ret ⟨⟨_,rfl⟩,Qt.refl C.hb⟩
theorem WN(A:Cf disp)(hK:10000<K)(C:D6 h B X F)(hd:10<=d):Ok (Ag TT disp K d false 126 [.ptr B.c 0] h) fun v h'=>(∃b,v=.bool b)/\Qt F h h':=by
 obtain⟨e,rfl⟩:=fc d;rw[WO A a_];simp only[BT,Aa];rw[C.hJ];refine p_ A C fun h2 f=>?_
 have bd:=C.sm.mq;obtain⟨n,p⟩:=bD (show 0<=X.S.g.D*X.S.g.Z from a_);rw[p];refine(WM A hK p (d:=e) a_ K 0 h2 a_ a_ (C.gN f).C).mono ?_;rintro v h3 ⟨a,t⟩;exact⟨a,(Qt.ext f C.hb).trans t⟩
end
section
theorem WQ:(Fa TT 166 0).2.1 = [8,9]:=by kernel_rfl
def inB(z:Int)(x:Me):Bool:=decide (x.state=1)&&(decide (x.Ai=z)||decide (x.Bj=z))
def ItS(N:Nat)(i:Nat):Prop:=N<=i/\i<N+4
structure mr(h:Ab)(N:Nat)(tm:Ay)(l0:Nat)(stop:Bool):Prop where
 y:h.get N=some (.cells [.Vh l0] 77)
 d:h.get (N+2)=some (.deferred true)
 l:h.get (N+3)=some (Aw TT 166 31 0 tm (if stop then .done else .ready) (if stop then some .ret else none) (N+2))
 lt:N+4<=h.next
structure qa(disp:Nat->Option FT)(K e l0 zq b ml ll:Nat)(g:Gm)(es:List Me)(z:Int)(N:Nat)(Inv:Nat->Ab->Prop)(Stop:Ab->Prop):Prop where
 frI:∀j h h',Inv j h->As (ItS N) h h'->Inv j h'
 frS:∀h h',Stop h->As (ItS N) h h'->Stop h'
 Dl:∀j (hj:j<es.length) h,inB z es[j]=true->Inv j h->N+4<=h.next->∃more h',Ag TT disp K e true l0 [I j] h=some (.bool more,h')/\As (fun i=>¬ItS N i) h h'/\(if more=true then Inv (j+1) h' else Stop h')
 skp:∀j (hj:j<es.length) h,inB z es[j]=false->Inv j h->Inv (j+1) h
 hbI:∀j h,Inv j h->HB h
 hbS:∀h,Stop h->HB h
 map:∀j h,Inv j h->Qs h b ml ll g es
 zon:∀j h,Inv j h->h.get zq=some (.cells [I z] 3)
section
variable (H:Cf disp){e ll:Nat}{g:Gm}{z:Int}{N:Nat}{Inv:Nat->Ab->Prop}(c:qa disp K e l0 zq b ml ll g es z N Inv Stop)(t2:tmp tm 2=.ptr zq 0)(t3:tmp tm 3=.ptr N 0)(lz:zq<N)(he:2<=e)
include H c t2 t3 lz he
theorem WR(hj:j<es.length)(S0:mr h N tm l0 false)(I0:Inv j h):
 ∃more h',Ag TT disp K (e+1) true (N+3) [I j,.agg es[j].cells] h=some (.bool more,h')/\mr h' N tm l0 (!more)/\(if more=true then Inv (j+1) h' else Stop h'):=by
 have hg:=S0.l;simp only[aV,ak]at hg;have a:=hg;have hb:=c.hbI _ _ I0;have Dl:=c.Dl j hj;have skp:=c.skp j hj;generalize es[j]=x at Dl skp⊢;unfold Aw at a;rw[WQ]at a;rw[WS H he tm h (I j) _ a,t2,t3];simp only[BU,Aa];rw[ly (h:=h.new (.cells [EV.int .i64 0,.int .i64 0,.int .i64 0,.int .i64 0,.int .i64 0,.int .i64 0] 87)) (i:=h.next) (o:=0) (n:=6) (v:=.agg x.cells) (l:=[EV.int .i64 0,.int .i64 0,.int .i64 0,.int .i64 0,.int .i64 0,.int .i64 0]) (l':=x.cells) (t:=87) (Ad _ _) rfl rfl rfl];obtain⟨h3,e_,u,e3,_⟩:=nP h (.cells [EV.int .i64 0,.int .i64 0,.int .i64 0,.int .i64 0,.int .i64 0,.int .i64 0] 87) (.cells x.cells 87);rw[e_];have ad:=u.hb hb;have q0:=u.at hb hg;have l3:=ad _ _ q0;rw[Zg q0];have D:ItS N (N+3):=⟨a_,a_⟩;have c4:As (ItS N) h (h3.put (N+3) (Aw TT 166 31 0 tm .busy none (N+2))):=(Ext.to (S:=ItS N) u).Aq (.inl D) l3 _;have r0:(h3.put (N+3) (Aw TT 166 31 0 tm .busy none (N+2))).get (N+3)=some (Aw TT 166 31 0 tm .busy none (N+2)):=Ae _ _ _;have G:(h3.put (N+3) (Aw TT 166 31 0 tm .busy none (N+2))).get N=some (.cells [.Vh l0] 77):=by rw[Af _];exact u.at hb S0.y
 have rd:(h3.put (N+3) (Aw TT 166 31 0 tm .busy none (N+2))).get (N+2)=some (.deferred true):=by rw[Af _];exact u.at hb S0.d
 have re:(h3.put (N+3) (Aw TT 166 31 0 tm .busy none (N+2))).get h.next=some (.cells x.cells 87):=by rw[Af _ (by have:=S0.lt;omega)];exact e3
 have J:=c.frI _ _ _ I0 c4;have M:h.next<=(h3.put (N+3) (Aw TT 166 31 0 tm .busy none (N+2))).next:=c4.next
 generalize h3.put (N+3) (Aw TT 166 31 0 tm .busy none (N+2))=h4 at c4 r0 G rd re J M⊢;have f:=c.hbI _ _ J;have rz:=c.zon _ _ J;have l4:=f _ _ r0;have ae:=S0.lt;have ay:E4 (.tuple []) false=false/\E4 (.tuple []) true=false:=⟨rfl,rfl⟩;have no:inB z x=false->∃more h',X5 (N+3) true .ready none h4=some (.bool more,h')/\mr h' N tm l0 (!more)/\(if more=true then Inv (j+1) h' else Stop h'):=fun hn=>by
  rw[Rc r0];refine⟨true,_,rfl,⟨by rw[Af _];exact G,by rw[Af _];exact rd,Ae _ _ _,by rw[Ab.P9];omega⟩,?_⟩;rw[aK rfl];exact c.frI _ _ _ (skp h4 hn J) ((As.refl (S:=ItS N) h4).Aq (.inl D) l4 _)
 have yes:inB z x=true->∃more h',Ao (T5 (Ag TT disp K e false) (Ag TT disp K e true) (.Vh l0) [.int .i64 (j:Int)] h4) (fun af h=>i_ af fun ag=>Jb (Ag TT disp K e false) (Ag TT disp K e true) K (N+3) (.bool true) ag h)=some (.bool more,h')/\mr h' N tm l0 (!more)/\(if more=true then Inv (j+1) h' else Stop h'):=fun hy=>by
  obtain⟨more,U,e5,c5,i5⟩:=Dl h4 hy J (bS ae M);have hc:T5 (Ag TT disp K e false) (Ag TT disp K e true) (.Vh l0) [.int .i64 (j:Int)] h4=some (.bool more,U):=e5;rw[hc,Ar];have kp:∀k o,ItS N k->h4.get k=some o->U.get k=some o:=fun k o hk g=>c5.at f g fun y=>y hk
  have p:=kp _ _ D r0;have O:=kp N _ ⟨a_,a_⟩ G;have P:=kp (N+2) _ ⟨a_,a_⟩ rd;have ai:=c5.hb f;have l5:=ai _ _ p;have a5:=c5.next
  cases more with
  | true=>
   simp only[Aa,Ac,Jb];rw[Rc p];refine⟨true,_,rfl,⟨by rw[Af _];exact O,by rw[Af _];exact P,Ae _ _ _,by rw[Ab.P9];omega⟩,?_⟩;rw[aK rfl]at i5⊢;exact c.frI _ _ _ i5 ((As.refl (S:=ItS N) U).Aq (.inl D) l5 _)
  | false=>
   simp only[Aa,Ac,Jb];rw[Rc p];refine⟨false,_,rfl,⟨by rw[Af _];exact O,by rw[Af _];exact P,Ae _ _ _,by rw[Ab.P9];omega⟩,?_⟩;rw[aH (by simp)]at i5⊢;exact c.frS _ _ i5 ((As.refl (S:=ItS N) U).Aq (.inl D) l5 _)
 simp only[BV,Aa];rw[Al re rfl (v:=I x.state) rfl];unfold inB at no yes;simp only[I,Ac];by_cases s1:x.state=1
 case neg=>
  simp only[s1,aA,Aa,Ac,Ph,Lt,Ln,Jb];exact no (by rw[aU s1,a8])
 simp only[s1,aB,Aa,Ac];rw[Al re rfl (v:=I x.Ai) rfl,Al rz rfl (v:=I z) rfl];simp only[I,Ac];by_cases z1:x.Ai=z
 ·simp only[z1,aB,Aa,Ac,Ph,Lt,Ln]
  rw[Al G rfl (v:=.Vh l0) rfl];exact yes (by rw[aR s1,aR z1];rfl)
 simp only[z1,aA,Aa,Ac,Ph];rw[Al re rfl (v:=I x.Bj) rfl,Al rz rfl (v:=I z) rfl];simp only[I,Ac];by_cases V:x.Bj=z
 ·simp only[V,aB,Aa,Ac,Lt,Ln]
  rw[Al G rfl (v:=.Vh l0) rfl];exact yes (by rw[aR s1,aR V,Bool.or_true];rfl)
 simp only[V,aA,Aa,Ac,Lt,Ln,Jb];exact no (by rw[aU z1,aU V,Bool.or_false,eC])
theorem WT(J:es.length<=256):∀(m i:Nat) (h:Ab),es.length-i<m->i<=es.length->mr h N tm l0 false->Inv i h ->
 Ok (Cc (Ag TT disp K (e+1) false) (Ag TT disp K (e+1) true) K m (.Vh (N+3)) (.slice ml 0 es.length es.length false) (I es.length) (I i) h) fun _ h'=>∃stop,mr h' N tm l0 stop/\(if stop=true then Stop h' else Inv es.length h')/\HB h':=by
 intro m;induction m with
 | zero=>intro i h hm;omega
 | succ m t=>
  intro i h hm hi S0 f;have hb:=c.hbI _ _ f;have u:=(c.map _ _ f).row;rw[Cc];simp only[I,Ac,Aa];by_cases a:i<es.length
  ·have:decide ((i:Int)<(es.length:Int))=true:=by simp;omega
   simp only[this,Aa,F3];rw[Lg a,bJ,Cu u rfl (rG es a)]
   try simp only[Aa]
   have rd:=fun h S0 f=>WR (K:=K) H c t2 t3 lz he a (h:=h) S0 f
   generalize es[i]=x at rd⊢;refine Ok.mk rfl rfl fun h3 p e3 _=>?_
   rw[Cu e3 rfl (Ak (n:=6) rfl)];have S3:mr h3 N tm l0 false:=⟨p.at hb S0.y,p.at hb S0.d,p.at hb S0.l,bS S0.lt p.next⟩;obtain⟨more,h4,D,S4,i4⟩:=rd h3 S3 (c.frI _ _ _ f (Ext.to p));have G:T5 (Ag TT disp K (e+1) false) (Ag TT disp K (e+1) true) (.Vh (N+3)) [.int .i64 (i:Int),.agg x.cells] h3=some (.bool more,h4):=D;rw[G,Ar];cases more with
   | false=>
    simp only[Aa];rw[aH (by simp)]at i4;refine .ret ⟨true,S4,by rw[aK rfl];exact i4,?_⟩;exact c.hbS _ i4
   | true=>
    simp only[Aa,F2,Ac];rw[aK rfl]at i4;rw[Cn,show((i:Nat):Int)+1=((i+1:Nat):Int) from a_];exact t (i+1) h4 a_ a_ S4 i4
  ·have:decide ((i:Int)<(es.length:Int))=false:=by simp;omega
   have:i=es.length:=a_
   subst this;simp only[Aa,aA,Int.lt_irrefl];exact .ret ⟨false,S0,by rw[aH (by simp)];exact f,hb⟩
end
theorem WU(H:Cf disp)(hK:1000<K){e M ll:Nat}{g:Gm}{z:Int}{Inv:Nat->Ab->Prop}(c:qa disp K e l0 zq b ml ll g es z h0.next Inv Stop)(he:2<=e)(s:Sm g)(gv:h0.get M=some (.cells [.ptr b 0] 55))(y:Inv 0 h0):
 Ok (Ag TT disp K (e+3) false 166 [.Vh l0,.ptr M 0,.ptr zq 0] h0) fun v h'=>v=.tuple []/\(Inv es.length h'\/Stop h'):=by
 have:=s.b0;have:=s.b1;have hb:=c.hbI _ _ y;have mp:=c.map _ _ y;have gz:=c.zon _ _ y;have hlen:=mp.len;have lz:=hb _ _ gz;have lm:=hb _ _ mp.row;rw[WV H a_];simp only[BW,dr];rw[WW rfl];obtain⟨h1,e_,D,y1,n1⟩:=nW h0 (.cells (EV.Vh l0).cells 77);rw[e_];have p:=D.hb hb;rw[Al (D.at hb gv) rfl (v:=.ptr b 0) rfl];simp only[Xo,Aa,E9];rw[Al (D.at hb mp.map) rfl (v:=.slice ml 0 g.B.toNat g.B.toNat false) rfl,<-hlen];simp only[Aa];have G:Ext h1 (h1.new (.cells [.slice ml 0 es.length es.length false] 145)):=As.new _ _;have q2:(h1.new (.cells [.slice ml 0 es.length es.length false] 145)).get h1.next=some (.cells [.slice ml 0 es.length es.length false] 145):=Ad _ _
 have n2:(h1.new (.cells [.slice ml 0 es.length es.length false] 145)).next=h0.next+2:=by rw[Ab.Dd,n1]
 generalize h1.new (.cells [.slice ml 0 es.length es.length false] 145)=h2 at G q2 n2⊢;have t:=G.hb p;generalize a:(((((Tr.nil.put 0 (some (EV.Vh l0))).put 1 (some (EV.ptr M 0))).put 2 (some (EV.ptr zq 0))).put 3 (some (EV.ptr h0.next 0))).put 6 (some (EV.ptr b 0))).put 7 (some (EV.func 201 [] [EV.ptr h1.next 0]))=tm;have t2:tmp tm 2=.ptr zq 0:=by rw[<-a];simp only[Iu,reduceIte,Nat.reduceEqDiff]
 have t3:tmp tm 3=.ptr h0.next 0:=by rw[<-a];simp only[Iu,reduceIte,Nat.reduceEqDiff]
 clear a;refine Ok.range ?_;have u:Ext h2 (Cd TT 166 31 0 tm h2):=Jd;have O:(Cd TT 166 31 0 tm h2).get h2.next=some (.deferred true):=La
 have P:(Cd TT 166 31 0 tm h2).get (h2.next+1)=some (Aw TT 166 31 0 tm .ready none h2.next):=Ju;have n3:(Cd TT 166 31 0 tm h2).next=h2.next+2:=rfl
 generalize Cd TT 166 31 0 tm h2=h3 at u O P n3⊢;have al:=u.hb t;rw[n2]at O P n3⊢;have U:Ext h0 h3:=(D.trans G).trans u;rw[Jc H (cF _)];simp only[Gs,dr];rw[Al (u.at t q2) rfl (v:=.slice ml 0 es.length es.length false) rfl];simp only[Aa];have S3:mr h3 h0.next tm l0 false:=⟨Ext.at (G.trans u) p y1,O,P,a_⟩
 have I3:=c.frI _ _ _ y (Ext.to U);refine(WT (K:=K) H c t2 t3 lz he a_ K 0 h3 a_ a_ S3 I3).mono ?_;rintro _ h4 ⟨stop,S4,i4,f⟩;have lp:=S4.l;have J:=f _ _ lp;have aq:=S4.lt;have sd:ItS h0.next (h0.next+2):=⟨a_,a_⟩
 have sl:ItS h0.next (h0.next+3):=⟨a_,a_⟩
 cases stop with
 | true=>
  simp only[bN]at lp i4;refine .inr ⟨lp,?_⟩;have d5:(h4.put (h0.next+2+1) (Aw TT 166 31 0 tm .exhausted (some .ret) (h0.next+2))).get (h0.next+2)=some (.deferred true):=by rw[Af _];exact S4.d
  refine Ok.unwind (cA.2 ⟨by simp,dE⟩) (fun d hd=>by rw[aN]at hd;subst hd;exact d5) (f.put J _) fun h6 V _=>?_
  refine .ret ⟨rfl,.inr (c.frS _ _ i4 (((As.refl (S:=ItS h0.next) h4).Aq (.inl sl) J _).trans (V.mono fun i hi=>by rw[aN]at hi;subst hi;exact sd)))⟩
 | false=>
  simp only[aV,ak]at lp i4;refine .inl ⟨lp,?_⟩;have d5:(h4.put (h0.next+2+1) (Aw TT 166 31 0 tm .exhausted none (h0.next+2))).get (h0.next+2)=some (.deferred true):=by rw[Af _];exact S4.d
  refine Ok.unwind (cA.2 ⟨by simp,dE⟩) (fun d hd=>by rw[aN]at hd;subst hd;exact d5) (f.put J _) fun h6 V _=>?_
  refine .ret ⟨rfl,.inl (c.frI _ _ _ i4 (((As.refl (S:=ItS h0.next) h4).Aq (.inl sl) J _).trans (V.mono fun i hi=>by rw[aN]at hi;subst hi;exact sd)))⟩
end
section
theorem Qt.js(q:Qt F h0 h)(c:As T h h')(t:∀i,T i->h0.next<=i):Qt F h0 h':=by
 obtain⟨⟨U,k,u⟩,hb⟩:=q;exact⟨⟨U,k.sw c t,u⟩,c.hb hb⟩
theorem Ok.oJ(H:Cf disp)(hK:1000<K){e a ll:Nat}{g:Gm}{z:Int}{Inv:Nat->Ab->Prop}{fn:Nat}{ds:List Nat}{k:Ab->List Nat->R}{ret:Ab->List Nat->R}
 (c:qa disp K e (h.next+1) zq b ml ll g es z (h.next+2) Inv Stop) (he:2<=e) (s:Sm g) (f:h.get a=some (.cells [.ptr b 0] 55)) (hb:HB h) (p:Inv 0 (Cd TT fn n i tm h))
 (t:∀h',Inv es.length h'->h'.get (h.next+1)=some (Aw TT fn n i tm .ready none h.next)/\Ok (k (h'.put (h.next+1) (Aw TT fn n i tm .exhausted none h.next)) (h.next::ds)) Q)
 (u:∀h',Stop h'->h'.get (h.next+1)=some (Aw TT fn n i tm .done (some .ret) h.next)/\Ok (ret (h'.put (h.next+1) (Aw TT fn n i tm .exhausted (some .ret) h.next)) (h.next::ds)) Q) :
 Ok (Yk (Ag TT disp K (e+3) false) TT fn n i (.func 166 [] [.ptr a 0,.ptr zq 0]) tm h ds k ex ret) Q:=by
 refine Ok.range ((WU (K:=K) H hK (h0:=Cd TT fn n i tm h) c he s (Jd.at hb f) p).mono ?_);rintro _ h' ⟨rfl,y|y⟩
 ·exact .inl (t h' y)
 ·exact .inr (u h' y)
def nj(S:Mi)(x:Me):Bool:=!S.It x.Ai&&!S.It x.Bj
def kD(S:Mi)(z:Int)(es:List Me):Bool:=es.all fun x=>!inB z x||nj S x
theorem BX{z:Int}(hj:j<es.length):kD S z (es.take (j+1))=(kD S z (es.take j)&&(!inB z es[j]||nj S es[j])):=by
 unfold kD;rw[List.take_add_one,List.all_append,aE hj];simp
theorem WX{z:Int}(hj:j<es.length)(hi:inB z es[j]=true)(a:nj S es[j]=false):kD S z es=false:=by
 unfold kD;rw[List.all_eq_false];exact⟨es[j],bA hj,by rw[hi,a];simp⟩
structure lL(F:Nat->Prop)(h0 h:Ab)(l0:Nat)(tm:Ay)(B:Cb)(zq:Nat)(z:Int)(stop:Bool):Prop where
 q:Qt F h0 h
 lp:h.get l0=some (Aw TT 167 40 0 tm (if stop then .done else .ready) (if stop then some .ret else none) (l0-1))
 dd:h.get (l0-1)=some (.deferred true)
 c2:h.get h0.next=some (.cells [.ptr B.c 0] 26)
 c4:h.get (h0.next+1)=some (.cells [.bool false] 4)
 zq:h.get zq=some (.cells [I z] 3)
theorem lL.chg{z:Int}{stop:Bool}(w:lL F h0 h l0 tm B zq z stop)(c:As T h h')(t:∀i,T i->l0<i)(l:h0.next+1<l0)(lz:zq<l0):lL F h0 h' l0 tm B zq z stop:=by
 have kp:∀i o,h.get i=some o->i<=l0->h'.get i=some o:=fun i o g hi=>c.at w.q.hb g fun y=>by have:=t i y;omega
 exact⟨w.q.js c fun i hi=>by have:=t i hi;omega,kp _ _ w.lp (aD _),kp _ _ w.dd a_,kp _ _ w.c2 a_,kp _ _ w.c4 a_,kp _ _ w.zq a_⟩
theorem WY:(Fa TT 167 0).2.1 = [14]:=by kernel_rfl
theorem WZ(hj:j<es.length):hU es (j:Int)=(es[j],0):=by
 unfold hU;rw[aK ⟨a_,a_⟩,bF,aE hj];rfl
theorem vK {g:Gm}(s:Sm g)(h:meR g x=true):Vp x.Ai/\Vp x.Bj:=by
 obtain⟨_,a,b,_⟩:=yY s h;exact⟨⟨a_,a_⟩,⟨a_,a_⟩⟩
section
variable (A:Cf disp)(hK:10000<K)(C:D6 h0 B X F)
include A C
theorem W_{z:Int}(t2:tmp tm 2=.ptr h0.next 0)(t4:tmp tm 4=.ptr (h0.next+1) 0)(l:h0.next+1<l0)(lz:zq<l0)(nz:h0.next+1<zq){e:Nat}(he:4<=e)(hj:j<X.es.length)(D:lL F h0 h l0 tm B zq z false):
 Ok (Ag TT disp K e true l0 [I j] h) fun v h'=>v=.bool (nj X.S X.es[j])/\As (fun i=>i=l0\/i=h0.next+1) h h'/\lL F h0 h' l0 tm B zq z (!nj X.S X.es[j]):=by
 obtain⟨e,rfl⟩:=fc e;have hg:=D.lp;simp only[aV,ak]at hg;have G:=hg;unfold Aw at G;rw[WY]at G;rw[XA A a_ tm h (I j) G,t2,t4];have hb:=D.q.hb;have U:=hb _ _ hg;simp only[BZ,Zg hg,Wu,dr];have n4:l0≠h0.next+1:=a_
 have c1:As (fun i=>i=l0\/i=h0.next+1) h (h.put l0 (Aw TT 167 40 0 tm .busy none (l0-1))):=(As.refl h).Aq (.inl (.inl rfl)) U _;have g0:(h.put l0 (Aw TT 167 40 0 tm .busy none (l0-1))).get l0=some (Aw TT 167 40 0 tm .busy none (l0-1)):=Ae _ _ _;have kp:∀i o,h.get i=some o->i≠l0->(h.put l0 (Aw TT 167 40 0 tm .busy none (l0-1))).get i=some o:=fun i o g hi=>by rw[Af _ (cX hi)];exact g
 have gd:=kp _ _ D.dd a_;have J:=kp _ _ D.c2 a_;have g4:=kp _ _ D.c4 a_;have gz:=kp _ _ D.zq a_;have q1:Qt F h0 (h.put l0 (Aw TT 167 40 0 tm .busy none (l0-1))):=D.q.js ((As.refl (S:=fun i=>i=l0) h).Aq (.inl rfl) U _) fun i hi=>a_
 clear kp;generalize h.put l0 (Aw TT 167 40 0 tm .busy none (l0-1))=h1 at c1 g0 gd J g4 gz q1⊢;have t:=(C.rd q1).C;rw[Al J rfl (v:=.ptr B.c 0) rfl];simp only[Aa];rw[t.jC];refine(Zu (K:=K) C.sm t.map t.hb j).Ao ?_;rintro _ h2 ⟨rfl,x2⟩;rw[WZ hj];have hx:=C.map.ok _ (bA hj);obtain⟨r1,r2⟩:=vK C.sm hx;unfold nj;generalize X.es[j]=x at r1 r2⊢;simp only[Aa];have ao:=x2.hb t.hb;refine Ok.mk rfl rfl fun h3 x3 e3 _=>?_
 have O:=x2.trans x3;have a:=x3.hb ao;have V:∀{i o},h1.get i=some o->h3.get i=some o:=fun g=>Ext.at O t.hb g
 have C3:=(t.gN O).C;have l2:=a _ _ (V J);have lc:=a _ _ C3.core;have le:=a _ _ e3;rw[Jg l2,Al (V J) rfl (v:=.ptr B.c 0) rfl];simp only[Aa,Au];rw[Jg lc,C3.hJ];simp only[Aa,Au];rw[Jg le,Al e3 rfl (v:=I x.Ai) rfl];simp only[Aa,Au];refine Ok.bE (N8 (K:=K) (C3.M.same (iO.lift _)).s (Dj a) r1) (fun _ _ p=>p.2) ?_;rintro _ bb h4 ⟨rfl,_⟩ _ x4;have aw:=x4.hb a;have u:=O.trans x4;have fin:∀(b:Bool) (y:Ab),Ext h1 y->Ok (Dc (Ag TT disp K e false) (Ag TT disp K e true) K l0 h3.next ⟨0,[],[],[],[]⟩ (.ptr (h0.next+1) 0) (.bool (!b)) (.bool (!b)) y) fun v h'=>v=.bool b/\As (fun i=>i=l0\/i=h0.next+1) h h'/\lL F h0 h' l0 tm B zq z (!b):=fun b y P=>by
  have aa:=P.hb t.hb;have f:∀{i o},h1.get i=some o->y.get i=some o:=fun g=>Ext.at P t.hb g
  have q5:=q1.trans (Qt.ext P t.hb);have l5:=aa _ _ (f g0);have ad:=aa _ _ (f g4);have c5:=c1.trans (Ext.to P);cases b with
  | true=>
   simp only[Dc,eR,Aa,Ac];rw[Rc (f g0)];exact .ret ⟨rfl,c5.Aq (.inl (.inl rfl)) l5 _,q5.js ((As.refl (S:=fun i=>i=l0) y).Aq (.inl rfl) l5 _) (fun i hi=>by omega),Ae _ _ _,by rw[Af _];exact f gd,by rw[Af _];exact f J,by rw[Af _];exact f g4,by rw[Af _];exact f gz⟩
  | false=>
   simp only[Dc,dF,Aa,Ac];rw[ly (o:=0) (n:=1) (v:=.bool false) (l':=[.bool false]) (f g4) rfl rfl rfl,Rc (by rw[Af _ (cX n4)];exact f g0)];exact .ret ⟨rfl,(c5.Aq (.inl (.inr rfl)) ad _).Aq (.inl (.inl rfl)) l5 _,q5.js (((As.refl (S:=fun i=>h0.next<=i) y).Aq (.inl a_) ad _).Aq (.inl a_) l5 _) (fun i hi=>hi),Ae _ _ _,
    by rw[Af _,Af _];exact f gd,by rw[Af _,Af _];exact f J,by rw[Af _];exact Ae _ _ _,by rw[Af _,Af _];exact f gz⟩
 cases X.S.It x.Ai with
 | true=>
  have:=fin false h4 u;simp only[Dc,dF,Aa,Ac]at this;simp only[Aa,Ac,Dc,eR,a8];exact this
 | false=>
 simp only[Aa,Ac,dF,bG];have ax:∀{i o},h1.get i=some o->h4.get i=some o:=fun g=>Ext.at u t.hb g
 have C4:=(t.gN u).C;rw[Jg l2,Al (ax J) rfl (v:=.ptr B.c 0) rfl];simp only[Aa,Au];rw[Jg lc,C4.hJ];simp only[Aa,Au];rw[Jg le,Al (x4.at a e3) rfl (v:=I x.Bj) rfl];simp only[Aa,Au];refine Ok.bE (N8 (K:=K) (C4.M.same (iO.lift _)).s (Dj aw) r2) (fun _ _ p=>p.2) ?_;rintro _ bf y ⟨rfl,_⟩ _ P;have ae:=u.trans P;cases X.S.It x.Bj with
 | true=>
  have:=fin false y ae;simp only[Dc,dF,Aa,Ac]at this;simp only[Aa,Ac,Dc,eR];exact this
 | false=>
  have:=fin true y ae;simp only[Dc,eR,Aa,Ac]at this;simp only[Aa,Ac,Dc,dF];exact this
include hK
theorem XB(hd:8<=d)(z:Int):Ok (Ag TT disp K d false 167 [.ptr B.c 0,I z] h0) fun v h'=>v=.bool (kD X.S z X.es)/\Qt F h0 h':=by
 obtain⟨e,rfl⟩:∃k,d=k+3+1:=⟨d-4,a_⟩;rw[XC A a_];simp only[B',Aa];have hb:=C.hb;have O:Ext h0 ((h0.new (.cells [.ptr B.c 0] 26)).new (.cells [.bool false] 4)):=(As.new _ _).Dn _;have D:((h0.new (.cells [.ptr B.c 0] 26)).new (.cells [.bool false] 4)).next=h0.next+2:=rfl
 have V:((h0.new (.cells [.ptr B.c 0] 26)).new (.cells [.bool false] 4)).get h0.next=some (.cells [.ptr B.c 0] 26):=by rw[Ba _ (aT _)];exact Ad _ _
 have G:((h0.new (.cells [.ptr B.c 0] 26)).new (.cells [.bool false] 4)).get (h0.next+1)=some (.cells [.bool false] 4):=Ad _ _;rw[show(h0.new (.cells [.ptr B.c 0] 26)).next=h0.next+1 from rfl];generalize (h0.new (.cells [.ptr B.c 0] 26)).new (.cells [.bool false] 4)=h1 at O D V G⊢;have f:=O.hb hb;have C1:=(C.gN O).C;rw[Al V rfl (v:=.ptr B.c 0) rfl];simp only[Aa];rw[C1.jC];simp only[qb,Aa,I];have J:Ext h1 ((h1.new (.cells [.ptr B.b 0] 55)).new (.cells [.int .i64 z] 3)):=(As.new _ _).Dn _;have n2:((h1.new (.cells [.ptr B.b 0] 55)).new (.cells [.int .i64 z] 3)).next=h0.next+4:=by rw[Ab.Dd,Ab.Dd,D]
 have gv:((h1.new (.cells [.ptr B.b 0] 55)).new (.cells [.int .i64 z] 3)).get (h0.next+2)=some (.cells [.ptr B.b 0] 55):=by rw[<-D,Ba _ (aT _)];exact Ad _ _
 have gz:((h1.new (.cells [.ptr B.b 0] 55)).new (.cells [.int .i64 z] 3)).get (h0.next+3)=some (.cells [I z] 3):=by rw[show h0.next+3=(h1.new (.cells [.ptr B.b 0] 55)).next by rw[Ab.Dd,D]];exact Ad _ _
 rw[show(h1.new (.cells [.ptr B.b 0] 55)).next=h0.next+3 by rw[Ab.Dd,D],D];generalize (h1.new (.cells [.ptr B.b 0] 55)).new (.cells [.int .i64 z] 3)=h2 at J n2 gv gz⊢;have a:=J.hb f;have aa:Ext h0 h2:=O.trans J;generalize p:(((((((((Tr.nil.put 0 (some (EV.ptr B.c 0))).put 1 (some (EV.int .i64 z))).put 2 (some (EV.ptr h0.next 0))).put 4 (some (EV.ptr (h0.next+1) 0))).put 8 (some (EV.ptr B.c 0))).put 9 (some (EV.ptr B.c 0))).put 10 (some (EV.ptr B.c 2))).put 11 (some (EV.ptr B.b 0))).put 12 (some (EV.int .i64 z))).put 13 (some (EV.func 166 [] [EV.ptr (h0.next+2) 0,EV.ptr (h0.next+3) 0]))=tm;have t2:tmp tm 2=.ptr h0.next 0:=by rw[<-p];simp only[Iu,reduceIte,Nat.reduceEqDiff]
 have t4:tmp tm 4=.ptr (h0.next+1) 0:=by rw[<-p];simp only[Iu,reduceIte,Nat.reduceEqDiff]
 clear p;have nl:h2.next+1=h0.next+5:=a_
 have hlen:=C.map.len;have cl:qa disp K e (h2.next+1) (h0.next+3) B.b B.ml B.ll X.S.g X.es z (h2.next+2) (fun j h=>lL F h0 h (h2.next+1) tm B (h0.next+3) z false/\kD X.S z (X.es.take j)=true) (fun h=>lL F h0 h (h2.next+1) tm B (h0.next+3) z true/\kD X.S z X.es=false):=by
  refine⟨fun j h h' w c=>⟨w.1.chg c (fun i hi=>by have:=hi.1;omega) a_ a_,w.2⟩,fun h h' w c=>⟨w.1.chg c (fun i hi=>by have:=hi.1;omega) a_ a_,w.2⟩,fun j hj h hi w _=>?_,fun j hj h hi w=>⟨w.1,?_⟩,fun j h w=>w.1.q.hb,fun h w=>w.1.q.hb,fun j h w=>(C.rd w.1.q).C.map,fun j h w=>w.1.zq⟩
  ·obtain⟨v,h',e1,rfl,c,w'⟩:=W_ (K:=K) A C t2 t4 (l0:=h2.next+1) (zq:=h0.next+3) a_ a_ a_ (e:=e) a_ hj w.1
   refine⟨_,h',e1,c.mono fun i hi y=>?_,?_⟩
   ·have:=y.1;omega
   ·cases P:nj X.S X.es[j]with
    | true=>
     rw[aK rfl];rw[P]at w';exact⟨w',by rw[BX hj,w.2,P];simp⟩
    | false=>
     rw[aH (by simp)];rw[P]at w';exact⟨w',WX hj hi P⟩
  ·rw[BX hj,w.2,hi];rfl
 have U:Ext h2 (Cd TT 167 40 0 tm h2):=Jd;have I0:lL F h0 (Cd TT 167 40 0 tm h2) (h2.next+1) tm B (h0.next+3) z false:=⟨Qt.ext (aa.trans U) hb,Ju,La,U.at a (J.at f V),U.at a (J.at f G),U.at a gz⟩;refine Ok.oJ (K:=K) A a_ cl a_ C.sm gv a ⟨I0,rfl⟩ (fun h3 w=>⟨w.1.lp,?_⟩) fun h3 w=>⟨w.1.lp,?_⟩
 ·have w2:=w.2
  rw[cM]at w2;rw[w2];have t:=w.1.q.hb;have l3:=t _ _ w.1.lp;have u:Qt F h0 (h3.put (h2.next+1) (Aw TT 167 40 0 tm .exhausted none h2.next)):=w.1.q.js ((As.refl (S:=fun i=>i=h2.next+1) h3).Aq (.inl rfl) l3 _) fun i hi=>a_
  have G:(h3.put (h2.next+1) (Aw TT 167 40 0 tm .exhausted none h2.next)).get (h0.next+1)=some (.cells [.bool false] 4):=by rw[Af _];exact w.1.c4
  have gd:(h3.put (h2.next+1) (Aw TT 167 40 0 tm .exhausted none h2.next)).get h2.next=some (.deferred true):=by rw[Af _];exact w.1.dd
  generalize h3.put (h2.next+1) (Aw TT 167 40 0 tm .exhausted none h2.next)=h4 at u G gd⊢;have l4:=u.hb _ _ G;simp only[U3,dr];refine Ok.gK G rfl rfl (by show 0<1;decide) ?_;have q5:Qt F h0 (h4.put (h0.next+1) (.cells ([EV.bool false].set 0 (.bool true)) 4)):=u.js ((As.refl (S:=fun i=>i=h0.next+1) h4).Aq (.inl rfl) l4 _) fun i hi=>a_
  refine Ok.unwind (cA.2 ⟨by simp,dE⟩) (fun d hd=>by rw[aN]at hd;subst hd;rw[Af _];exact gd) q5.hb fun h6 M _=>?_
  have g6:h6.get (h0.next+1)=some (.cells [.bool true] 4):=As.at M q5.hb (Ae _ _ _) (by rw[aN];omega);rw[pN g6];exact .ret ⟨rfl,q5.js M fun i hi=>by rw[aN]at hi;omega⟩
 ·rw[w.2]
  have t:=w.1.q.hb;have l3:=t _ _ w.1.lp;have u:Qt F h0 (h3.put (h2.next+1) (Aw TT 167 40 0 tm .exhausted (some .ret) h2.next)):=w.1.q.js ((As.refl (S:=fun i=>i=h2.next+1) h3).Aq (.inl rfl) l3 _) fun i hi=>a_
  refine Ok.unwind (cA.2 ⟨by simp,dE⟩) (fun d hd=>by rw[aN]at hd;subst hd;rw[Af _];exact w.1.dd) u.hb fun h6 M _=>?_
  have g6:h6.get (h0.next+1)=some (.cells [.bool false] 4):=As.at M u.hb (by rw[Af _];exact w.1.c4) (by rw[aN];omega);rw[pN g6];exact .ret ⟨rfl,u.js M fun i hi=>by rw[aN]at hi;omega⟩
end
end
section
def jD(z:Int)(es:List Me)(j:Nat):List Nat:=(List.range j).filter fun i=>inB z ((es[i]?).getD (Me.nil 0))
theorem XD {z:Int}(hj:j<es.length)(h:inB z es[j]=true):jD z es (j+1)=jD z es j++[j]:=by
 unfold jD;rw[dB,eK,fM,aE hj];simp[h]
theorem XE {z:Int}(hj:j<es.length)(h:inB z es[j]=false):jD z es (j+1)=jD z es j:=by
 unfold jD;rw[dB,eK,fM,aE hj];simp[h]
theorem B_(z:Int)(es:List Me)(j:Nat):(jD z es j).length<=j:=by
 unfold jD;have:=eL (fun i=>inB z ((es[i]?).getD (Me.nil 0))) (List.range j);simpa using this
def nI(i:Nat):EV:=I (i:Int)
structure nn(F:Nat->Prop)(h0 h:Ab)(l0:Nat)(tm:Ay)(zq:Nat)(z:Int)(L:List Nat):Prop where
 q:Qt F h0 h
 lp:h.get l0=some (Aw TT 85 19 0 tm .ready none (l0-1))
 dd:h.get (l0-1)=some (.deferred true)
 zq:h.get zq=some (.cells [I z] 3)
 row:∃s qr,h.get h0.next=some (.cells [s] 30)/\Ce h s qr 3 1 L.length (L.map nI)/\(0<L.length->l0+5<=qr)
theorem nn.chg{z:Int}{L:List Nat}(w:nn F h0 h l0 tm zq z L)(c:As T h h')(t:∀i,T i->l0<i/\i<l0+5)(l:h0.next<l0)(lz:zq<l0):nn F h0 h' l0 tm zq z L:=by
 have kp:∀i o,h.get i=some o->i<=l0->h'.get i=some o:=fun i o g hi=>c.at w.q.hb g fun y=>by have:=t i y;omega
 obtain⟨s,qr,p,a,f⟩:=w.row;exact⟨w.q.js c fun i hi=>by have:=t i hi;omega,kp _ _ w.lp (aD _),kp _ _ w.dd a_,kp _ _ w.zq a_,s,qr,kp _ _ p a_,a.frame fun y=>c.get _ (w.q.hb _ _ (a.block y)) fun u=>by have:=t _ u;have:=f y;omega,f⟩
theorem XF:(Fa TT 85 0).2.1 = [13]:=by kernel_rfl
section
variable (A:Cf disp)(hK:10000<K)
include A
theorem XG{z:Int}(t5:tmp tm 5=.ptr h0.next 0)(l:h0.next+1<l0)(lz:zq<l0)(nz:h0.next<zq){e:Nat}(he:2<=e){L:List Nat}(hL:L.length<=256)(nx:l0+5<=h.next)(p:nn F h0 h l0 tm zq z L):
 Ok (Ag TT disp K e true l0 [I j] h) fun v h'=>v=.bool true/\As (fun i=>¬(l0<i/\i<l0+5)) h h'/\nn F h0 h' l0 tm zq z (L++[j]):=by
 obtain⟨e,rfl⟩:=fc e;have O:=p.lp;have f:=O;unfold Aw at f;rw[XF]at f;rw[XH A a_ tm h (I j) f,t5];have hb:=p.q.hb;have P:=hb _ _ O;simp only[CA,Zg O,V9,dr];obtain⟨s,qr,r1,r2,M⟩:=p.row;have c1:As (fun i=>i=l0) h (h.put l0 (Aw TT 85 19 0 tm .busy none (l0-1))):=(As.refl (S:=fun i=>i=l0) h).Aq (.inl rfl) P _;have U:(h.put l0 (Aw TT 85 19 0 tm .busy none (l0-1))).get l0=some (Aw TT 85 19 0 tm .busy none (l0-1)):=Ae _ _ _;have kp:∀i o,h.get i=some o->i≠l0->(h.put l0 (Aw TT 85 19 0 tm .busy none (l0-1))).get i=some o:=fun i o g hi=>by rw[Af _ (cX hi)];exact g
 have gd:=kp _ _ p.dd a_;have V:=kp _ _ r1 a_;have gz:=kp _ _ p.zq a_;have rr:=r2.frame (h':=h.put l0 (Aw TT 85 19 0 tm .busy none (l0-1))) fun y=>Af _ (by have:=M y;omega)
 have aa:(h.put l0 (Aw TT 85 19 0 tm .busy none (l0-1))).next=h.next:=rfl
 have t:Qt F h0 (h.put l0 (Aw TT 85 19 0 tm .busy none (l0-1))):=p.q.js c1 fun i hi=>a_
 clear kp;generalize h.put l0 (Aw TT 85 19 0 tm .busy none (l0-1))=h1 at c1 U gd V gz rr aa t⊢;rw[Al V rfl (v:=s) rfl];refine Ny (z:=[.int .i64 0]) (v:=I j) rr t.hb rfl rfl rfl a_ a_ fun h2 u ah c2=>?_
 have D:=c2.hb t.hb;have G:∀i o,h1.get i=some o->i<=l0->h2.get i=some o:=fun i o g hi=>c2.at t.hb g fun y=>by have:=M y.1;omega
 have J:=G _ _ V a_;have l5:=D _ _ J;have ad:=D _ _ (G _ _ U (aD _));refine Ok.gK J rfl rfl (by show 0<1;decide) ?_;rw[Rc (by rw[Af _];exact G _ _ U (aD _))];have c3:As (fun i=>i=l0\/i=h0.next) h2 ((h2.put h0.next (.cells ([s].set 0 (.slice (h1.next+1) 0 (L.length+1) (L.length+1) true)) 30)).put l0 (Aw TT 85 19 0 tm .ready none (l0-1))):=((As.refl h2).Aq (.inl (.inr rfl)) l5 _).Aq (.inl (.inl rfl)) ad _;have same:∀i,i≠l0->i≠h0.next->((h2.put h0.next (.cells ([s].set 0 (.slice (h1.next+1) 0 (L.length+1) (L.length+1) true)) 30)).put l0 (Aw TT 85 19 0 tm .ready none (l0-1))).get i=h2.get i:=fun i a b=>by rw[Af _ (cX a),Af _ (cX b)]
 refine .ret ⟨rfl,?_,?_,?_,?_,?_,?_⟩
 ·refine((c1.mono fun i hi y=>?_).trans (c2.mono fun i hi y=>?_)).trans (c3.mono fun i hi y=>?_)
  ·omega
  ·have:=M hi.1;omega
  ·omega
 ·refine(t.js c2 fun i hi=>?_).js c3 fun i hi=>a_
  have:=M hi.1;omega
 ·exact Ae _ _ _
 ·rw[same _ a_ a_];exact G _ _ gd a_
 ·rw[same _ a_ a_];exact G _ _ gz a_
 ·refine⟨.slice (h1.next+1) 0 (L.length+1) (L.length+1) true,h1.next+1,?_,?_,fun _=>a_⟩
  ·rw[Af _];exact Ae _ _ _
  ·rw[aF,cI]
   exact Ce.frame u fun _=>same _ a_ a_
include hK
theorem XI(C:D6 h0 B X F)(hd:8<=d)(z:Int):Ok (Ag TT disp K d false 85 [.ptr B.c 0,I z] h0) fun v h'=>Qt F h0 h'/\∃qr,Ce h' v qr 3 1 (jD z X.es X.es.length).length ((jD z X.es X.es.length).map nI)/\(0<(jD z X.es X.es.length).length->h0.next<=qr):=by
 obtain⟨e,rfl⟩:∃k,d=k+3+1:=⟨d-4,a_⟩;rw[XJ A a_];simp only[CB,Aa];have hb:=C.hb;obtain⟨h1,e_,J,u,f⟩:=nW h0 (.cells [.Am] 30);rw[e_];have p:=J.hb hb;have C1:=(C.gN J).C;rw[C1.jC];simp only[qb,Aa,I];have D:Ext h1 ((h1.new (.cells [.ptr B.b 0] 55)).new (.cells [.int .i64 z] 3)):=(As.new _ _).Dn _;have n2:((h1.new (.cells [.ptr B.b 0] 55)).new (.cells [.int .i64 z] 3)).next=h0.next+3:=by rw[Ab.Dd,Ab.Dd,f]
 have V:((h1.new (.cells [.ptr B.b 0] 55)).new (.cells [.int .i64 z] 3)).get (h0.next+1)=some (.cells [.ptr B.b 0] 55):=by rw[<-f,Ba _ (aT _)];exact Ad _ _
 have gz:((h1.new (.cells [.ptr B.b 0] 55)).new (.cells [.int .i64 z] 3)).get (h0.next+2)=some (.cells [I z] 3):=by rw[show h0.next+2=(h1.new (.cells [.ptr B.b 0] 55)).next by rw[Ab.Dd,f]];exact Ad _ _
 rw[show(h1.new (.cells [.ptr B.b 0] 55)).next=h0.next+2 by rw[Ab.Dd,f],f];generalize (h1.new (.cells [.ptr B.b 0] 55)).new (.cells [.int .i64 z] 3)=h2 at D n2 V gz⊢;have a:=D.hb p;have M:Ext h0 h2:=J.trans D;generalize t:(((((((((Tr.nil.put 0 (some (EV.ptr B.c 0))).put 1 (some (EV.int .i64 z))).put 4 (some EV.Am)).put 5 (some (EV.ptr h0.next 0))).put 7 (some (EV.ptr B.c 0))).put 8 (some (EV.ptr B.c 0))).put 9 (some (EV.ptr B.c 2))).put 10 (some (EV.ptr B.b 0))).put 11 (some (EV.int .i64 z))).put 12 (some (EV.func 166 [] [EV.ptr (h0.next+1) 0,EV.ptr (h0.next+2) 0]))=tm;have t5:tmp tm 5=.ptr h0.next 0:=by rw[<-t];simp only[Iu,reduceIte,Nat.reduceEqDiff]
 clear t;have nl:h2.next+1=h0.next+4:=a_
 have hlen:=C.map.len;have:=C.sm.b0;have:=C.sm.b1;have cl:qa disp K e (h2.next+1) (h0.next+2) B.b B.ml B.ll X.S.g X.es z (h2.next+2) (fun j h=>nn F h0 h (h2.next+1) tm (h0.next+2) z (jD z X.es j)/\j<=X.es.length) (fun h=>False):=by
  refine⟨fun j h h' w c=>⟨w.1.chg c (fun i hi=>by have:=hi.1;have:=hi.2;omega) a_ a_,w.2⟩,fun h h' w c=>w.elim,fun j hj h hi w nx=>?_,fun j hj h hi w=>⟨by rw[XE hj hi];exact w.1,hj⟩,fun j h w=>w.1.q.hb,fun h w=>w.elim,fun j h w=>(C.rd w.1.q).C.map,fun j h w=>w.1.zq⟩;have bl:=B_ z X.es j;obtain⟨v,h',e1,rfl,c,w'⟩:=XG (K:=K) A t5 (l0:=h2.next+1) (zq:=h0.next+2) a_ a_ a_ (e:=e) a_ (j:=j) a_ a_ w.1;refine⟨true,h',e1,c.mono fun i hi y=>hi ⟨by have:=y.1;omega,by have:=y.2;omega⟩,?_⟩;rw[aK rfl,XD hj hi];exact⟨w',hj⟩
 have O:Ext h2 (Cd TT 85 19 0 tm h2):=Jd;have I0:nn F h0 (Cd TT 85 19 0 tm h2) (h2.next+1) tm (h0.next+2) z (jD z X.es 0):=⟨Qt.ext (M.trans O) hb,Ju,La,O.at a gz,.Am,0,O.at a (D.at p u),Ce.nil _ _ _ _,fun y=>absurd y (bX 0)⟩;refine Ok.oJ (K:=K) A a_ cl a_ C.sm V a ⟨I0,cF _⟩ (fun h3 w=>⟨w.1.lp,?_⟩) fun h3 w=>w.elim
 obtain⟨w,_⟩:=w;obtain⟨s,qr,r1,r2,P⟩:=w.row;have U:=w.q.hb;have l3:=U _ _ w.lp;have G:Qt F h0 (h3.put (h2.next+1) (Aw TT 85 19 0 tm .exhausted none h2.next)):=w.q.js ((As.refl (S:=fun i=>i=h2.next+1) h3).Aq (.inl rfl) l3 _) fun i hi=>a_
 have u:(h3.put (h2.next+1) (Aw TT 85 19 0 tm .exhausted none h2.next)).get h0.next=some (.cells [s] 30):=by rw[Af _];exact r1
 have gd:(h3.put (h2.next+1) (Aw TT 85 19 0 tm .exhausted none h2.next)).get h2.next=some (.deferred true):=by rw[Af _];exact w.dd
 have rr:=r2.frame (h':=h3.put (h2.next+1) (Aw TT 85 19 0 tm .exhausted none h2.next)) fun y=>Af _ (by have:=P y;omega)
 generalize h3.put (h2.next+1) (Aw TT 85 19 0 tm .exhausted none h2.next)=h4 at G u gd rr⊢;simp only[T8,dr];rw[Al u rfl (v:=s) rfl];refine Ok.unwind (cA.2 ⟨by simp,dE⟩) (fun d hd=>by rw[aN]at hd;subst hd;exact gd) G.hb fun h6 ch _=>?_
 exact .ret ⟨G.js ch fun i hi=>by rw[aN]at hi;omega,qr,rr.frame fun y=>ch.get _ (G.hb _ _ (rr.block y)) fun y'=>by rw[aN]at y';have:=P y;omega,fun y=>by have:=P y;omega⟩
end
end
section
def Co.live(X:Co)(z:Int):Int:=mg X.S.g X.es z
def Co.lO(X:Co)(z:Int):Bool:=X.closed z&&(decide (2*X.live z<=X.S.g.S)&&kD X.S z X.es)
def Co.Qe(X:Co):Nat->Int
 | 0=>-1
 | i+1=>if X.lO i=true/\(X.Qe i = -1\/X.live i<X.live (X.Qe i))then i else X.Qe i
theorem Co.vL(X:Co):∀n,-1<=X.Qe n/\X.Qe n<n
 | 0=>by unfold Co.Qe;omega
 | n+1=>by
  have:=X.vL n;unfold Co.Qe;split<;>omega
theorem CC(a:X.es.length<=256)(z:Int):0<=X.live z/\X.live z<=256:=by
 unfold Co.live mg;split
 ·have:=pH z X.es;omega
 ·omega
theorem D6.CE(C:D6 h B X F):X.es.length<=256:=by
 have:=C.map.len;have:=C.sm.b1;have:=C.sm.b0;omega
theorem XK(A:Cf disp)(hK:10000<K)(hn:X.S.g.D*X.S.g.Z=n)(hd:8<=d):∀(f i:Nat) (h:Ab),n-i<f->i<=n->D6 h B X F ->
 Ok (Ii (Ag TT disp K d false) (Ag TT disp K d true) K f (.ptr B.c 0) (I (X.Qe i)) (I n) (I i) h) fun v h'=>v=I (X.Qe n)/\Qt F h h':=by
 intro f;induction f with
 | zero=>intro i h hf;omega
 | succ f ih=>
  intro i h hf hi C;have bd:=C.sm.mq;have V:=C.CE;rw[Ii];simp only[I,Ac];by_cases ag:i<n
  ·have:decide ((i:Int)<(n:Int))=true:=by simp;omega
   simp only[this,Aa,CF];rw[C.jC];have ml:=u5 (K:=K) C.map i;simp only[I]at ml;rw[ml,Ar];refine(vJ A hK C hd (z:=i) ⟨a_,a_⟩).Ao ?_;rintro _ h2 ⟨rfl,P⟩;have J:=(C.rd P).C;have nx:∀h' b,Qt F h h'->b=X.Qe (i+1)->Ok (Oi (Ag TT disp K d false) (Ag TT disp K d true) K (Ii (Ag TT disp K d false) (Ag TT disp K d true) K f) (.ptr B.c 0) (.int .i64 b) (.int .i64 (n:Int)) (.int .i64 (i:Int)) h') fun v h'=>v=I (X.Qe n)/\Qt F h h':=by
    intro h' b q hb;subst hb;simp only[Oi,Ac];rw[Cn,show((i:Nat):Int)+1=((i+1:Nat):Int) from a_];refine(ih (i+1) h' a_ a_ (C.rd q).C).mono ?_;rintro v h3 ⟨a,u⟩;exact⟨a,q.trans u⟩
   have no:X.lO i=false->X.Qe i=X.Qe (i+1):=fun G=>by
    rw[show X.Qe (i+1)=if X.lO i=true/\(X.Qe i = -1\/X.live i<X.live (X.Qe i))then(i:Int)else X.Qe i from rfl,aH (by rw[G];simp)]
   have lb:=CC V i;have vb:=X.vL i;have ah:=CC V (X.Qe i);have ai:E4 (.tuple []) false=false/\E4 (.tuple []) true=false:=⟨rfl,rfl⟩;unfold Co.lO at no;show Ok (i_ (.bool (X.closed i)) _) _;cases G:X.closed i with
   | false=>
    simp only[Aa,Ac,Oa,Km];exact nx _ _ P (no (by rw[G,a8]))
   | true=>
   simp only[Aa,Ac];rw[J.hJ];refine(O8 (K:=K) J.M J.hb).Ao ?_;rintro _ h3 ⟨rfl,x3⟩;have u:=P.trans (Qt.ext x3 J.hb);have C3:=(C.rd u).C;unfold gV;rw[vM (v:=I X.S.g.S) rfl];simp only[I,Ac];have hL:mg X.S.g X.es i=X.live i:=rfl;rw[hL,Cn];by_cases h2:X.S.g.S<2*X.live i
   ·simp only[h2,aB,Aa,Ac,Oa,Km]
    exact nx _ _ u (no (by rw[G,aU a_];rfl))
   simp only[h2,aA,Aa,Ac,Oa];have wo:=XB (K:=K) A hK C3 (d:=d) hd i;simp only[I]at wo;refine wo.Ao ?_;rintro _ h4 ⟨rfl,t⟩;have t:=u.trans t;have C4:=(C.rd t).C;cases hw:kD X.S i X.es with
   | false=>
    simp only[Aa,Ac,Km];exact nx _ _ t (no (by rw[hw,eC,eC]))
   | true=>
   simp only[Aa,Ac,Km,CG];have p:X.lO i=true:=by unfold Co.lO;rw[G,hw,aR a_];rfl
   by_cases O:X.Qe i = -1
   ·simp only[O,aB,Aa,Ac,Ua]
    exact nx _ _ t (by rw[show X.Qe (i+1)=if X.lO i=true/\(X.Qe i = -1\/X.live i<X.live (X.Qe i))then(i:Int)else X.Qe i from rfl,aK ⟨p,.inl O⟩])
   simp only[O,aA,Aa,Ac];rw[C4.jC];have ml:=u5 (K:=K) C4.map (X.Qe i);simp only[I]at ml;rw[ml,Ar];simp only[Ac,Ua];have U:mg X.S.g X.es (X.Qe i)=X.live (X.Qe i):=rfl;rw[U];by_cases h3:X.live i<X.live (X.Qe i)
   ·simp only[h3,aB,Aa,Ac]
    exact nx _ _ t (by rw[show X.Qe (i+1)=if X.lO i=true/\(X.Qe i = -1\/X.live i<X.live (X.Qe i))then(i:Int)else X.Qe i from rfl,aK ⟨p,.inr h3⟩])
   ·simp only[h3,aA,Aa,Ac]
    exact nx _ _ t (by rw[show X.Qe (i+1)=if X.lO i=true/\(X.Qe i = -1\/X.live i<X.live (X.Qe i))then(i:Int)else X.Qe i from rfl,aH fun y=>y.2.elim O h3])
  ·have:decide ((i:Int)<(n:Int))=false:=by simp;omega
   have:i=n:=a_
   subst this;simp only[Int.lt_irrefl,aA,Aa,CH];exact .ret ⟨rfl,Qt.refl C.hb⟩
theorem XL(A:Cf disp)(hK:10000<K)(C:D6 h B X F)(hd:9<=d):Ok (Ag TT disp K d false 127 [.ptr B.c 0] h) fun v h'=>v=I (X.Qe (X.S.g.D*X.S.g.Z).toNat)/\Qt F h h':=by
 obtain⟨e,rfl⟩:=fc d;rw[XM A a_];simp only[CK,Aa];rw[C.hJ];refine p_ A C fun h2 f=>?_
 have bd:=C.sm.mq;obtain⟨n,p⟩:=bD (show 0<=X.S.g.D*X.S.g.Z from a_);rw[p,bF];refine(XK A hK p (d:=e) a_ K 0 h2 a_ a_ (C.gN f).C).mono ?_;rintro v h3 ⟨a,t⟩;exact⟨a,(Qt.ext f C.hb).trans t⟩
end
theorem D6.lift(C:D6 h B X F):D6 h.lift B X F:=
 ⟨C.M.same (iO.lift _),by rw[Bx];exact C.core,by rw[Bx];exact C.ar,C.map.frame (Bx _ _) (Bx _ _) (Bx _ _),C.wf,C.out,Dj C.hb⟩
section
theorem XN{z:Int}:X.closed z=true↔0<=Cl X.S.g z/\¬z=X.S.a/\¬z=X.S.b/\X.S.It z=false/\iZ X.cur X.By z=false/\hasB X.S.ps X.S.g.D.toNat z=false:=by
 unfold Co.closed;simp only[aX,aW,Bool.not_eq_true']
theorem CL {By:Nat->Int}{z:Int}:iZ cur By z=true↔∃i,i<3/\((¬cur i = -1/\z=cur i)\/(¬By i = -1/\z=By i)):=by
 have e:∀x:Int,Tn x z=true↔¬x = -1/\z=x:=fun x=>by
  unfold Tn;simp only[aX,aW];exact⟨fun y=>⟨y.1,y.2.symm⟩,fun y=>⟨y.1,y.2.symm⟩⟩
 have st:iZ cur By z=(((false||(Tn (cur 0) z||Tn (By 0) z))||(Tn (cur 1) z||Tn (By 1) z))||(Tn (cur 2) z||Tn (By 2) z)):=rfl;rw[st];simp only[Bool.or_eq_true,e,aV,false_or];constructor
 ·rintro((h|h)|h)
  ·exact⟨0,a_,h⟩
  ·exact⟨1,a_,h⟩
  ·exact⟨2,a_,h⟩
 ·rintro⟨i,hi,h⟩
  rcases i with _|_|_|i
  ·exact .inl (.inl h)
  ·exact .inl (.inr h)
  ·exact .inr h
  ·omega
def Hm(x:R)(h:Ab)(B:Cb)(X:Co)(F:Nat->Prop):Prop:=Ok x fun v h'=>∃(e:Int) (Y:Co),v=I e/\G4 h h' B X F Y/\∀fz L,CI fz L T1 X->¬e=34
theorem Hm.ret{e:Int}(c:G4 h h' B X F Y)(n:∀fz L,CI fz L T1 X->¬e=34:=by exact fun _ _ _=>by decide):Hm (some (.int .i64 e,h')) h B X F:=Ok.ret ⟨e,Y,rfl,c,n⟩
theorem Hm.from {x:R}(c:G4 h h1 B X F Y)(a:Hm x h1 B Y F):Hm x h B X F:=by
 refine Ok.mono a ?_;rintro v h' ⟨e,Z,rfl,c2,n⟩;exact⟨e,Z,rfl,c.trans c2,fun fz L i=>n fz L (c.ck.iv fz L i)⟩
theorem Hm.then {x:R}(c:G4 h h1 B X F Y)(a:Hm x h1 B Y F)(b:∀e h' Z,G4 h h' B X F Z->(∀fz L,CI fz L T1 X->¬e=34)->Hm (k (.int .i64 e) h') h B X F):Hm (Ao x k) h B X F:=by
 refine Ok.Ao a ?_;rintro v h' ⟨e,Z,rfl,c2,n⟩;exact b e h' Z (c.trans c2) fun fz L i=>n fz L (c.ck.iv fz L i)
theorem XO(S:Mi)(z:Int):Mk0 S (S.jr z):=⟨rfl,Dk.refl _⟩
theorem CM {z:Int}:∀{es:List Me},Uq es z=0->∀x∈es,x.state=1->¬x.Ai=z/\¬x.Bj=z
 | [],_,x,f,_=>by cases f
 | y::es,h,x,f,h1=>by
  rw[U6]at h;have a:=uW z y;have b:=(pH z es).1;rcases bZ.1 f with rfl|f
  ·have:ic z x=0:=a_
   unfold ic at this;split at this
   ·omega
   next p=>
    exact⟨fun e=>p ⟨h1,.inl e⟩,fun e=>p ⟨h1,.inr e⟩⟩
  ·exact CM (es:=es) a_ x f h1
theorem CJ.clear {fz:Fz}{L:List (List Nat)}{z:Int}(f:X.dead z=true):((∀o s,¬orR (A2b E X.ep X.es) T1 z o s)/\¬Qa X.cur X.By z)/\(¬z=X.S.a/\¬z=X.S.b)/\0<=Cl X.S.g z/\¬X.S.bad z.toNat=1:=by
 unfold Co.dead at f;rw[aX,aW]at f;obtain⟨t,p⟩:=f;obtain⟨d,a,b,u,ar,_⟩:=XN.1 t;have f:0<=z/\z<X.S.g.D*X.S.g.Z:=by
  unfold Cl at d;split at d
  ·omega
  ·omega
 unfold mg at p;rw[aK f]at p;have lz:=CM p;refine⟨⟨fun o s r=>?_,fun q=>?_⟩,⟨a,b⟩,d,vq u d⟩
 ·rcases r with⟨i,x,G,h1,_,r⟩|r
  ·have:=lz x (dJ G) h1
   rcases r with r|r
   ·exact this.1 r.1.symm
   ·exact this.2 r.1.symm
  ·exact r
 ·obtain⟨z0,i,hi,y⟩:=q
  have:iZ X.cur X.By z=true:=CL.2 ⟨i,hi,y.imp (fun y=>⟨a_,y⟩) fun y=>⟨a_,y⟩⟩;rw[ar]at this;cases this
section
variable (A:Cf disp)(hK:10000<K)(C:D6 h B X F)
include A hK C
theorem XP(hd:18<=d){z:Int}(p:Vp z):Hm (Ag TT disp K d false 97 [.ptr B.m 0,I z] h) h B X F:=by
 refine Ok.mono (Wx A hK C.M C.hb hd p) ?_;rintro v h' ⟨rfl,t,k,f⟩;exact⟨_,_,rfl,C.Hp t k f (AF _ _),fun fz L ⟨E,j⟩=>(j.a.Av z).2⟩
theorem XQ(hd:8<=d){z:Int}(f:Vp z)(t:0<=Cl X.S.g z->¬X.S.bad z.toNat=1)(iv:∀fz L,CI fz L T1 X->CI fz L T1 { X with S:=X.S.jr z }/\¬(iX X.S.g X.S.g.D.toNat X.S.ps z).1=34):Hm (Ao (Ci K (.ptr B.m 0) h) fun v h=>Ao (Ag TT disp K d false 41 [v,I z] h) fun v h=>some (v,h)) h B X F:=by
 obtain⟨p,e1,e2⟩:=CN C.M C.hb A hK;rw[e1,Ar];refine Ok.Ao (e2 hd f t) ?_;rintro v h' ⟨rfl,u,k,a⟩;exact .ret ⟨_,_,rfl,C.vH u k a (XO _ _) fun fz L i=>(iv fz L i).1,fun fz L i=>(iv fz L i).2⟩
theorem CO(hd:14<=d)(hk:∀e h' Y,G4 h h' B X F Y->(∀fz L,CI fz L T1 X->¬e=34)->Ok (k (.int .i64 e) h') Q):Ok (Ao (Bw K (.ptr B.m 0) h) fun v h=>Ao (Ag TT disp K d false 52 [v] h) k) Q:=by
 obtain⟨D,V,dr⟩:=ni A hK C.M C.hb;rw[dr.Da];refine Ok.Ao (dr.flush hd) ?_;rintro v h' ⟨rfl,p,kf,f⟩;exact hk _ _ _ (C.Hp p kf f (VD _)) fun fz L ⟨E,j⟩=>j.a.d.flush.2
theorem XR(hd:19<=d){z:Int}(G:Vp z)(dd:X.dead z=true):Hm (Ag TT disp K d false 56 [.ptr B.c 0,I z] h) h B X F:=by
 obtain⟨e,rfl⟩:=fc d;rw[XS A a_];simp only[CP,Aa];rw[C.hJ];obtain⟨D,V,dr⟩:=ni A hK C.M C.hb;rw[dr.Da];refine Ok.Ao (dr.reset (d:=e) a_ z (by rw[(oF X.S.dr z).size];exact C.wf.sz)) ?_;rintro v h2 ⟨rfl,M2,O,t⟩;have i2:∀fz L E,CJ fz E L T1 X->CJ fz E L T1 { X with S:={ X.S with dr:=(X.S.dr.reset z).1 } }/\¬(X.S.dr.reset z).2=34:=fun fz L E j=>by
  have p:=CJ.clear (fz:=fz) (E:=E) (L:=L) dd;have r:=j.a.d.reset z fun w o s r y=>p.1.1 o s (y▸r)
  exact⟨j.Hp rfl (j.a.dr r.1),r.2⟩
 have c2:=C.vH M2 O t (ss (zC _ z)) fun fz L ⟨E,j⟩=>⟨E,(i2 fz L E j).1⟩
 have J:∀fz L,CI fz L T1 X->¬(X.S.dr.reset z).2=34:=fun fz L ⟨E,j⟩=>(i2 fz L E j).2
 have u:=(CJ.clear (fz:=⟨fun _=>False,fun _ _=>True⟩) (E:=fun _=>En.zero) (L:=[]) dd).2.2.2;simp only[I,Ac];by_cases h0:(X.S.dr.reset z).2=0
 ·simp only[h0,aB,Aa]
  rw[c2.C.hJ];refine Hm.from c2 (XQ A hK c2.C (d:=e) a_ G (fun _=>u) fun fz L ⟨E,j⟩=>?_)
  have p:=CJ.clear (fz:=fz) (E:=E) (L:=L) dd;have g:=j.a.toMI.jr (z:=z) (fun _=>u) p.1.1 p.1.2 p.2.1.1 p.2.1.2;exact⟨⟨E,j.Hp rfl ⟨g.1,j.a.wf.jr fun _=>u,j.a.rt⟩⟩,g.2⟩
 simp only[h0,aA,Aa,Ac];by_cases f:(X.S.dr.reset z).2=34
 ·rw[f]at J
  simp only[f,aB,Aa];exact Hm.ret c2 J
 simp only[f,aA,Aa,CQ];rw[c2.C.hJ];refine Hm.then c2 (XP A hK c2.C (d:=e) a_ G) fun e3 h3 Z c3 n3=>?_
 simp only[Ac];by_cases h3:e3=34
 ·rw[h3]at n3
  simp only[h3,aB,Aa];exact Hm.ret c3 n3
 ·simp only[h3,aA,Aa,CR]
  exact Hm.ret c3
omit C in
theorem XT(J:X.S.g.D*X.S.g.Z=n)(hd:19<=d):∀(f i:Nat) (h1:Ab) (Y:Co),n-i<f->i<=n->G4 h h1 B X F Y ->
 Hm (Fu (Ag TT disp K d false) (Ag TT disp K d true) K f (.ptr B.c 0) (I n) (I i) h1) h B X F:=by
 intro f;induction f with
 | zero=>intro i h1 Y p;omega
 | succ f t=>
  intro i h1 Y p hi c1;have u:Y.S.g=X.S.g:=c1.ck.g;have bd:=c1.C.sm.mq;rw[u]at bd;rw[Fu];simp only[I,Ac];by_cases y:i<n
  ·have:decide ((i:Int)<(n:Int))=true:=by simp;omega
   simp only[this,Aa,Vq];refine Ok.Ao (BO A hK c1.C (d:=d) a_ (z:=i) ⟨a_,a_⟩) ?_;rintro v h2 ⟨rfl,G⟩;have c2:=c1.trans (c1.C.rd G);have nx:∀h3 Z,G4 h h3 B X F Z->Hm (J5 (Ag TT disp K d false) (Ag TT disp K d true) K (Fu (Ag TT disp K d false) (Ag TT disp K d true) K f) (.ptr B.c 0) (.int .i64 (n:Int)) (.int .i64 (i:Int)) h3) h B X F:=fun h3 Z c3=>by
    simp only[J5,Ac];rw[Cn,show((i:Nat):Int)+1=((i+1:Nat):Int) from a_];exact t (i+1) h3 Z a_ a_ c3
   cases a:Y.dead i with
   | false=>
    simp only[Aa];exact nx _ _ c2
   | true=>
    simp only[Aa,V6];refine Hm.then c2 (XR A hK c2.C hd (z:=i) ⟨a_,a_⟩ a) fun e3 h3 Z c3 n3=>?_
    simp only[Ac];by_cases h0:e3=0
    ·simp only[h0,aC,aA,Aa]
     exact nx _ _ c3
    ·simp only[h0,aG,aB,Aa]
     exact Hm.ret c3 n3
  ·have:decide ((i:Int)<(n:Int))=false:=by simp;omega
   simp only[this,Aa,Wj];exact Hm.ret c1
theorem sx(hd:21<=d:=by omega):Hm (Ag TT disp K d false 17 [.ptr B.c 0] h) h B X F:=by
 obtain⟨e,rfl⟩:=fc d;rw[XU A a_];simp only[CS,Aa];rw[C.hJ];refine CO A hK C (d:=e) a_ fun e1 h1 f c1 O=>?_
 simp only[Ac];by_cases h0:e1=0
 case neg=>
  simp only[h0,aG,aB,Aa];exact Hm.ret c1 O
 simp only[h0,aC,aA,Aa,Wb];rw[c1.C.BC];simp only[I,Ac];have lc:=c1.hb _ _ c1.C.core;refine Ok.gK c1.C.core rfl rfl (by show 3<7;decide) ?_;have c2:=c1.trans (c1.C.pZ (Cr .i64 (f.gen+1)) f.ep f.nx f.st fun fz L ⟨E,j⟩=>⟨E,j.a,j.en,j.len,j.nx,j.one⟩);have e2:(f.cells B).set 3 (.int .i64 (Cr .i64 (f.gen+1)))=({ f with gen:=Cr .i64 (f.gen+1),ep:=f.ep,nx:=f.nx,st:=f.st }:Co).cells B:=rfl;rw[e2];generalize ({ f with gen:=Cr .i64 (f.gen+1),ep:=f.ep,nx:=f.nx,st:=f.st }:Co)=u at c2⊢;generalize h1.put B.c (.cells (u.cells B) 111)=h2 at c2⊢;have t:=c2.hb _ _ c2.C.core;rw[Jg t,c2.C.Jg];simp only[Aa,Au];rw[Jg t,c2.C.BC];simp only[Aa,Au];rw[Jg t,c2.C.BD];simp only[Aa,Au];rw[Jg t,c2.C.lC];simp only[Aa,Au];rw[Jg t,c2.C.jC];simp only[Aa,Au];rw[Ax (l:=[I u.gen,I u.ep,I u.nx,.ptr B.b 0]) rfl];obtain⟨O,n2,n3,n4,U,V,n7,n8,n9,ad⟩:=c2.C.ne;have G:=c2.C.lift;have wr:=VO (K:=K) A hK (ar:=B.ar) (m:=B.m) (b:=B.b) (ml:=B.ml) (ll:=B.ll) (F:=B.fr F) (es:=u.es) (.inr (.inr (.inl rfl))) ⟨.inr (.inr (.inr (.inl rfl))),.inr (.inr (.inr (.inr (.inl rfl)))),.inr (.inr (.inr (.inr (.inr rfl)))),U.symm,V.symm,n7.symm⟩ (x:=u.gen) (y:=u.ep) (z:=u.nx) (d:=e) a_ G.M G.hb G.ar G.map G.wf.rt G.wf.sz G.wf.an;refine Ok.bC (S:=fun j=>¬B.fr F j\/j=B.ar) wr (fun _ _ p=>by obtain⟨_,_,_,_,_,_,a⟩:=p;exact a.c) ?_;rintro _ ae h3 s' ⟨n',er,S',cur',old',rfl,a⟩ sm ch ag;have c3:=c2.trans (c2.C.VU (a.M.same sm) (by rw[sm.get];exact a.A) ch (sm.hb a.hb) a.kk a.an fun fz R m=>(a.iv fz R m).1);have n3:∀fz L,CI fz L T1 X->¬er=34:=fun fz L i=>by
  obtain⟨E,j⟩:=c2.ck.iv fz L i;exact(a.iv _ _ j.a).2
 simp only[Aa,I,Ac];by_cases J:er=0
 case neg=>
  simp only[J,aG,aB,Aa];exact Hm.ret c3 n3
 simp only[J,aC,aA,Aa,Vo];rw[c3.C.hJ];refine p_ A c3.C fun h4 x4=>?_
 have c4:=c3.trans (c3.C.gN x4);have gY:=c4.ck.g;rw[gY];have bd:=C.sm.mq;obtain⟨n,P⟩:=bD (show 0<=X.S.g.D*X.S.g.Z from a_);rw[P];exact XT A hK P (d:=e) a_ K 0 h4 _ a_ a_ c4
end
end
section
theorem G4.vN(x:Ext h h1)(c:G4 h1 h2 B X (Bi F h h1) Y)(t:As T h2 h3)(f:∀i,T i->h.next<=i/\i<h1.next)(a:HB h3):G4 h h3 B X F Y:=
 ⟨(c.C.iC t (fun i hi _=>.inr (f i hi)) a).less fun _=>.inl,(x.nq c.k).then t fun i hi p=>by have:=f i hi;omega,c.ck⟩
theorem CJ.sub{L:List (List Nat)}{f:Tv}(j:CJ fz E L Rx X)(h:∀w o s,f w o s->Rx w o s):CJ fz E L f X:=⟨j.a.sub fun w o s r=>r.imp id (h w o s),j.en,j.len,j.nx,j.one⟩
theorem CI.sub{L:List (List Nat)}{a:Tv}(i:CI fz L Rx X)(h:∀w o s,a w o s->Rx w o s):CI fz L a X:=i.imp fun _ j=>j.sub h
theorem CI.num{L:List (List Nat)}(i:CI fz L Rx X)(h:X.nx<=281474976710655)(b:Bool):CI fz L Rx { X with gen:=X.gen,ep:=X.ep,nx:=Cr .i64 (X.nx+1),st:=b }:=by
 obtain⟨E,j⟩:=i;have:=j.nx;exact⟨E,j.a,j.en,j.len,by show 1<=Cr .i64 (X.nx+1)/\Cr .i64 (X.nx+1)<=281474976710656;rw[Cn];omega,j.one⟩
theorem CI.CT{L:List (List Nat)}(i:CI fz L Rx X)(b:Bool):CI fz L Rx { X with gen:=X.gen,ep:=X.ep,nx:=X.nx,st:=b }:=by
 obtain⟨E,j⟩:=i;exact⟨E,j.a,j.en,j.len,j.nx,j.one⟩
structure lP(X:Co)(e:En)(x:Me)(er:Int)(Z:Co):Prop where
 iv:∀fz L Rx,CI fz L Rx X->CI fz L Rx Z/\¬er=34/\(er=0->CI fz L (orR Rx (Aom e Z.ep x)) Z/\Avk Z.S.g Z.ep x e)
 k:Z.ep=X.ep/\Z.es=X.es/\Z.S.g=X.S.g
 st:X.st=false->er=0->Z.st=false
theorem XV(X:Co){e:En}(w:e.Wf):lP X e (X.S.place e X.ep X.nx).2.1 (X.S.place e X.ep X.nx).2.2 { X with S:=(X.S.place e X.ep X.nx).1 }:=by
 have g:=(AG X.S e X.ep X.nx).g;refine⟨fun fz L Rx ⟨E,j⟩=>?_,⟨rfl,rfl,g⟩,fun y _=>y⟩;obtain⟨p,ok⟩:=j.a.toMI.place j.a.wf j.a.rt e X.ep X.nx;have rt:rtB (X.S.place e X.ep X.nx).1.g=true:=by rw[g];exact j.a.rt
 refine⟨⟨E,j.Hp g ⟨p.m,p.w,rt⟩⟩,p.n,fun h0=>?_⟩;obtain⟨m,s1,sq,sm,h1,h2,hd⟩:=p.ok h0;refine⟨⟨E,?_⟩,s1,?_,w,by rw[sq];exact ok (.inl h0),sm⟩
 ·have:=j.Hp g ⟨p.m,p.w,rt⟩
  exact⟨⟨m.sub fun w o s r=>by
   rcases r with r|r|r
   ·exact .inl (.inl r)
   ·exact .inl (.inr r)
   ·exact .inr r,p.w,rt⟩,this.en,this.len,this.nx,this.one⟩
 ·show meB (X.S.place e X.ep X.nx).1.g _=true
  have f:=EOk.seq (ok (.inl h0));have hs:=sA (l:=e.bytes) w.u8;have t:=j.nx;rw[g];unfold meB;simp only[aX,aW];exact⟨h1,h2,hd,a_,a_,a_,a_⟩
theorem XW(S:Mi){e:En}{sq:Int}(h:(S.place e ep sq).2.2=0\/(S.place e ep sq).2.2=40):sq<=281474976710655:=by
 unfold Mi.place at h;split at h
 ·exfalso
  rename_i y;have h:(C8 e 0 0 ep sq).2=0\/(C8 e 0 0 ep sq).2=40:=h;unfold C8 at h y;split at h
  next c=>rw[aK c]at y;exact y rfl
  ·simp at h
 next y=>
  exact(EOk.seq (dK y:EOk e ep sq)).2.1
theorem lP.num{e:En}{er:Int}(p:lP X e x er Z)(h:Z.nx<=281474976710655)(b:Bool)(hb:er=0->X.st=false->b=false):lP X e x er { Z with gen:=Z.gen,ep:=Z.ep,nx:=Cr .i64 (Z.nx+1),st:=b }:=
 ⟨fun fz L Rx i=>by
  obtain⟨a,n,c⟩:=p.iv fz L Rx i;exact⟨a.num h b,n,fun y=>⟨(c y).1.num h b,(c y).2⟩⟩,p.k,fun y z=>hb z y⟩
structure vO(en:En)(h h':Ab)(B:Cb)(X:Co)(F:Nat->Prop)(v:EV)(x:Me)(e:Int)(Y:Co):Prop where
 v:v=.tuple [.agg x.cells,I e]
 r:Vp x.Ai/\Vp x.Bj
 c:G4 h h' B X F Y
 iv:∀fz L Rx,(X.st=true->∀w o s,¬Rx w o s)->CI fz L Rx X->CI fz L Rx Y/\¬e=34/\(e=0->CI fz L (orR Rx (Aom en Y.ep x)) Y/\Avk Y.S.g Y.ep x en)
 k:X.st=false->Y.ep=X.ep/\Y.es=X.es
 st:e=0->Y.st=false
theorem XX(s:Int):Vp (Me.nil s).Ai/\Vp (Me.nil s).Bj:=⟨⟨by show _<=(0:Int);omega,by show(0:Int)<=_;omega⟩,⟨by show _<=(0:Int);omega,by show(0:Int)<=_;omega⟩⟩
section
variable (A:Cf disp)(hK:10000<K)
include A hK
theorem XY(hd:20<=d){e:En}(w:e.Wf)(C:D6 h1 B X F){v3 v4:Nat}{x0:Me}(g3:h1.get v3=some (.cells e.cells 151))(V:h1.get v4=some (.cells x0.cells 87))(f4:F v4):
 Ok (O3 (Ag TT disp K d false) (Ag TT disp K d true) K (.ptr B.c 0) (.ptr v3 0) (.ptr v4 0) h1) fun v h'=>∃(x:Me) (er:Int) (Z:Co) (h2:Ab),v=.tuple [.agg x.cells,I er]/\(Vp x.Ai/\Vp x.Bj)/\lP X e x er Z/\G4 h1 h2 B X F Z/\As (fun i=>i=v4) h2 h'/\HB h':=by
 have lc:=C.hb _ _ C.core;have l3:=C.hb _ _ g3;have el:=En.Bm w;simp only[O3,Aa];rw[Jg lc,C.hJ];simp only[Aa,Au];rw[Jg l3,Cu g3 rfl (Ak el)];simp only[Aa,Au];rw[Jg lc,C.BD];simp only[Aa,Au];rw[Jg lc,C.lC];simp only[Aa,Au];have C':=C.lift;have pl:=XZ A hK (d:=d) hd C'.M C'.hb w X.ep X.nx;have pr:=VE C.M.wf e X.ep X.nx;refine Ok.bC (S:=fun j=>¬B.fr F j) pl (fun _ _ p=>p.2.2.1) ?_;rintro _ au h2 s' ⟨rfl,M',_,af⟩ sm ch ag;have c2:=C.Hp (M'.same sm) ch (sm.hb af) (AG _ e X.ep X.nx);have U:=c2.k.at C.hb V f4;have t:=XV X w;have ps:=XW X.S (e:=e) (ep:=X.ep) (sq:=X.nx);generalize X.S.place e X.ep X.nx=P at c2 pr t ps⊢;obtain⟨S',x,er⟩:=P;simp only at c2 pr t ps⊢;have yn:({ X with S:=S' }:Co).nx=X.nx/\({ X with S:=S' }:Co).st=X.st:=⟨rfl,rfl⟩;generalize ({ X with S:=S' }:Co)=Y at c2 t yn⊢;simp only[Aa];rw[J1 (by rcases ag with rfl|⟨w,rfl,_⟩<;>kernel_rfl)];refine Ok.mk rfl rfl fun h3 x3 e3 _=>?_
 have c3:=c2.trans (c2.C.gN x3);have u:=x3.at c2.hb U;have ay:h2.next≠v4:=by have:=c2.hb _ _ U;omega
 have l7:=c3.hb _ _ e3;have fin:∀(h4:Ab) (Z:Co),lP X e x er Z->G4 h1 h4 B X F Z->h4.get h2.next=some (.cells x.cells 87)->h4.get v4=some (.cells x0.cells 87)->Ok (Ze (Ag TT disp K d false) (Ag TT disp K d true) K (.ptr v4 0) (.ptr h2.next 0) (.int .i64 er) h4) fun v h'=>∃(x:Me) (er:Int) (Z:Co) (h2:Ab),v=.tuple [.agg x.cells,I er]/\(Vp x.Ai/\Vp x.Bj)/\lP X e x er Z/\G4 h1 h2 B X F Z/\As (fun i=>i=v4) h2 h'/\HB h':=by
  intro h4 Z f c4 g7 V;have l4:=c4.hb _ _ V;simp only[Ze,dr];rw[Cu g7 rfl (Ak (n:=6) rfl)];refine Ok.rM V rfl rfl ?_;rw[Fi (Ae _ _ _) kz.1 kz.2 rfl];exact .ret ⟨x,er,Z,h4,rfl,pr,f,c4,(As.refl (S:=fun i=>i=v4) h4).Aq (.inl rfl) l4 _,c4.hb.put l4 _⟩
 simp only[I,Ac];have ah:∀i,B.own i->i≠v4:=fun i hi y=>by subst y;exact C.out _ f4 hi
 have D:B.c≠h2.next:=by have:=c2.hb _ _ c2.C.core;omega
 have G:=ah _ (.inl rfl);by_cases h0:er=0
 ·simp only[h0,aB,Aa]at fin⊢
  rw[c3.C.lC];simp only[I,Ac];refine Ok.gK c3.C.core rfl rfl (by show 5<7;decide) ?_;have sq:Y.nx<=281474976710655:=by rw[yn.1];exact ps (.inl h0)
  rw[h0]at t;exact fin _ _ (t.num sq Y.st fun _ y=>by rw[yn.2];exact y) (c3.trans (c3.C.pZ Y.gen Y.ep (Cr .i64 (Y.nx+1)) Y.st fun fz L i=>i.num sq Y.st)) (by rw[Af _ D];exact e3) (by rw[Af _ G];exact u)
 simp only[h0,aA,Aa,Ac];by_cases a:er=40
 ·simp only[a,aB,Aa]at fin⊢
  rw[c3.C.lC];simp only[I,Ac];refine Ok.gK c3.C.core rfl rfl (by show 5<7;decide) ?_;have sq:Y.nx<=281474976710655:=by rw[yn.1];exact ps (.inr a)
  have c4:=c3.trans (c3.C.pZ Y.gen Y.ep (Cr .i64 (Y.nx+1)) Y.st fun fz L i=>i.num sq Y.st);have f:=t.num sq true fun y=>absurd y h0
  have e4:(Y.cells B).set 5 (.int .i64 (Cr .i64 (Y.nx+1)))=({ Y with gen:=Y.gen,ep:=Y.ep,nx:=Cr .i64 (Y.nx+1),st:=Y.st }:Co).cells B:=rfl;rw[e4];have J:(h3.put B.c (.cells (({ Y with gen:=Y.gen,ep:=Y.ep,nx:=Cr .i64 (Y.nx+1),st:=Y.st }:Co).cells B) 111)).get h2.next=some (.cells x.cells 87):=by rw[Af _ D];exact e3
  have O:(h3.put B.c (.cells (({ Y with gen:=Y.gen,ep:=Y.ep,nx:=Cr .i64 (Y.nx+1),st:=Y.st }:Co).cells B) 111)).get v4=some (.cells x0.cells 87):=by rw[Af _ G];exact u
  have f:lP X e x er { ({ Y with gen:=Y.gen,ep:=Y.ep,nx:=Cr .i64 (Y.nx+1),st:=Y.st }:Co)with gen:=Y.gen,ep:=Y.ep,nx:=Cr .i64 (Y.nx+1),st:=true }:=f;generalize hZ:({ Y with gen:=Y.gen,ep:=Y.ep,nx:=Cr .i64 (Y.nx+1),st:=Y.st }:Co)=Z at c4 J O⊢;have f:lP X e x er { Z with gen:=Z.gen,ep:=Z.ep,nx:=Z.nx,st:=true }:=by rw[<-hZ];exact f
  rw[a]at f;generalize h3.put B.c (.cells (Z.cells B) 111)=h4 at c4 J O⊢;refine Ok.gK c4.C.core rfl rfl (by show 6<7;decide) ?_;exact fin _ _ f (c4.trans (c4.C.pZ Z.gen Z.ep Z.nx true fun fz L i=>i.CT true)) (by rw[Af _ D];exact J) (by rw[Af _ G];exact O)
 ·simp only[a,aA,Aa]
  exact fin _ _ t c3 e3 u
theorem vP(hd:22<=d){e:En}(w:e.Wf)(C:D6 h B X F):Ok (Ag TT disp K d false 69 [.ptr B.c 0,.agg e.cells] h) fun v h'=>∃x er Y,vO e h h' B X F v x er Y:=by
 obtain⟨dd,rfl⟩:=fc d;rw[X' A a_];simp only[CU,Aa];rw[show(h.new (.cells e.cells 151)).next=h.next+1 from rfl];have D:Ext h ((h.new (.cells e.cells 151)).new (.cells (Me.nil 0).cells 87)):=(As.new _ _).Dn _;have n1:((h.new (.cells e.cells 151)).new (.cells (Me.nil 0).cells 87)).next=h.next+2:=rfl
 have P:((h.new (.cells e.cells 151)).new (.cells (Me.nil 0).cells 87)).get h.next=some (.cells e.cells 151):=by rw[Ba _ (aT _)];exact Ad _ _
 have J:((h.new (.cells e.cells 151)).new (.cells (Me.nil 0).cells 87)).get (h.next+1)=some (.cells (Me.nil 0).cells 87):=Ad _ _;rw[show[EV.int .i64 0,.int .i64 0,.int .i64 0,.int .i64 0,.int .i64 0,.int .i64 0]=(Me.nil 0).cells from rfl];generalize (h.new (.cells e.cells 151)).new (.cells (Me.nil 0).cells 87)=h1 at D n1 P J⊢;have p:=C.ext D;have f3:Bi F h h1 h.next:=.inr ⟨aD _,a_⟩
 have f4:Bi F h h1 (h.next+1):=.inr ⟨a_,a_⟩;rw[p.VV];have go:∀h2 Y,Y.st=false->(X.st=false->Y=X)->G4 h1 h2 B X (Bi F h h1) Y->Ok (O3 (Ag TT disp K dd false) (Ag TT disp K dd true) K (.ptr B.c 0) (.ptr h.next 0) (.ptr (h.next+1) 0) h2) fun v h'=>∃x er Y,vO e h h' B X F v x er Y:=fun h2 Y ys U c2=>by
  refine Ok.mono (XY A hK (d:=dd) a_ w c2.C (c2.k.at p.hb P f3) (c2.k.at p.hb J f4) f4) ?_;rintro v h4 ⟨x,er,Z,h3,rfl,r,G,c3,t,M⟩;refine⟨x,er,Z,rfl,r,G4.vN D (c2.trans c3) t (fun i hi=>by subst hi;omega) M,fun fz L Rx O i=>?_,fun y=>by have:=U y;subst this;exact⟨G.k.1,G.k.2.1⟩,G.st ys⟩;refine G.iv fz L Rx ?_;cases a:X.st with
  | false=>have:=U a;subst this;exact i
  | true=>exact(c2.ck.iv fz L (i.sub fun _ _ _ y=>y.elim)).sub fun w o s y=>absurd y (O a w o s)
 cases a:X.st with
 | false=>
  simp only[Aa];exact go h1 X a (fun _=>rfl) (G4.refl p)
 | true=>
  simp only[Aa];refine Ok.Ao (sx A hK p (d:=dd)) ?_;rintro _ h2 ⟨e2,Y,rfl,c2,V⟩;have u:=c2.k.at p.hb J f4;have l4:=c2.hb _ _ u;have stop:∀er:Int,¬er=0->(∀fz L,CI fz L T1 X->¬er=34)->Ok (f_ 6 (.ptr (h.next+1) 0) (.agg (Me.nil 0).cells) h2 fun h=>Iq TT [.c (.ptr (h1.next-1) 0) 87,.v (.int .i64 er)] h) fun v h'=>∃x er Y,vO e h h' B X F v x er Y:=fun er ne n34=>by
   rw[show h1.next-1=h.next+1 from a_];refine Ok.rM u rfl rfl ?_;rw[Fi (Ae _ _ _) kz.1 kz.2 rfl];exact .ret ⟨Me.nil 0,er,Y,rfl,XX 0,G4.vN D c2 ((As.refl (S:=fun i=>i=h.next+1) h2).Aq (.inl rfl) l4 _) (fun i hi=>by subst hi;omega) (c2.hb.put l4 _),fun fz L Rx O i=>⟨(c2.ck.iv fz L (i.sub fun _ _ _ y=>y.elim)).sub fun w o s y=>absurd y (O a w o s),n34 fz L (i.sub fun _ _ _ y=>y.elim),fun y=>absurd y ne⟩,fun y=>(by rw[a]at y;cases y),fun y=>absurd y ne⟩
  rw[show h1.next-1=h.next+1 from a_]at stop;simp only[I,Ac];by_cases f:e2=34
  ·simp only[f,aB,Aa]
   rw[Ax (l:=(Me.nil 0).cells) rfl];rw[f]at V;exact stop 34 c_ V
  simp only[f,aA,Aa,Ac];by_cases h0:e2=0
  ·simp only[h0,aC,aA,Aa,CV]
   refine Ok.gK c2.C.core rfl rfl (by show 6<7;decide) ?_;exact go _ _ rfl (fun y=>by rw[a]at y;cases y) (c2.trans (c2.C.pZ Y.gen Y.ep Y.nx false fun fz L i=>i.CT false))
  ·simp only[h0,aG,aB,Aa]
   rw[Ax (l:=(Me.nil 0).cells) rfl];exact stop 40 c_ fun _ _ _=>c_
end
end
section
theorem D6.same(C:D6 h B X F)(sm:iO h h'):D6 h' B X F:=
 ⟨C.M.same sm,by rw[sm.get];exact C.core,by rw[sm.get];exact C.ar,C.map.frame (sm.get _) (sm.get _) (sm.get _),C.wf,C.out,sm.hb C.hb⟩
theorem CW(a b c d:Int)(f:bl.length=32):iU (D1 [(0,1),(1,1),(2,1),(3,1),(4,1),(5,1),(6,32)]) [(0,I a),(1,I b),(2,I c),(3,I d),(6,.agg (Be bl))] En.zero.cells=some (⟨a,b,c,d,0,0,bl⟩:En).cells:=by
 have hs:=qd [I a,I b,I c,I d,I 0,I 0] (Be Di) (Be bl) (by rw[Az,Az,f,my]);rw[<-Un]at hs;show Bc (Nat.beq (Fp (Be bl)) 32) (oB (fun z=>some z) (Mf ([I a,I b,I c,I d,I 0,I 0]++Be Di) 6 (Be bl))) none=_;rw[Bb,Az,f,cO,Aj];rw[show(6:Nat) = [I a,I b,I c,I d,I 0,I 0].length from rfl,hs];rfl
theorem X_{j:Int}(h:(hU es j).1.state=1):∃b:Nat,j=b/\es[b]? = some (hU es j).1:=by
 unfold hU at h⊢;split at h
 next hj=>
  rw[aK hj];refine⟨j.toNat,a_,?_⟩;rw[aE a_];rfl
 ·cases h
theorem Avk.meR {g:Gm}{e:En}(a:Avk g ep x e):Ev.meR g x=true:=by
 unfold Ev.meR;rw[a.st,aH c_,aK rfl];exact a.me
theorem CX(g:Gm)(es:List Me)(j:Int)(x:Me):¬(jB g es j x).2=34:=by
 unfold jB;split
 ·split<;>simp
 ·simp
theorem YA {L:List (List Nat)}{v:List Nat}(h:L[b]? = some v):L.set b v=L:=by
 refine dP fun i=>?_
 rw[cR];split
 next y=>
  subst y;rw[aK (aZ.1 h).1,h]
 ·rfl
theorem CI.set{L:List (List Nat)}{e:En}(i:CI fz L (orR Rx (Aom e X.ep x)) X)(a:Avk X.S.g X.ep x e)(p:¬e.kind=2)(hb:b<X.es.length):CI fz (L.set b e.bytes) Rx { X with es:=X.es.set b x }:=by
 obtain⟨E,j⟩:=i;obtain⟨E',e1,e2⟩:∃E':Nat->En,E' b=e/\∀k,¬k=b->E' k=E k:=⟨fun k=>if k=b then e else E k,aK rfl,fun k h=>aH h⟩;refine⟨E',j.a.sub fun w o s r=>?_,fun k y f=>?_,by show(L.set b _).length=(X.es.set b x).length;rw[bM,bM];exact j.len,j.nx,j.one⟩
 ·rcases r with⟨k,y,f,h1,r⟩|r
  ·have f:(X.es.set b x)[k]? = some y:=f
   rw[cR]at f;by_cases h:b=k
   ·subst h
    rw[aK rfl,aK hb]at f;cases f;rw[e1]at r;exact .inr (.inr r)
   ·rw[aH h]at f
    rw[e2 k fun y=>h y.symm]at r;exact .inl ⟨k,y,f,h1,r⟩
  ·exact .inr (.inl r)
 ·have f:(X.es.set b x)[k]? = some y:=f
  rw[cR]at f;rw[cR];by_cases h:b=k
  ·subst h
   rw[aK rfl,aK hb]at f;cases f;rw[aK rfl,aK (by rw[j.len];exact hb),e1];exact .inr ⟨a,p,rfl⟩
  ·rw[aH h]at f
   rw[aH h,e2 k fun y=>h y.symm];exact j.en k y f
theorem CI.read{L:List (List Nat)}(i:CI fz L T1 X)(f:X.es[b]? = some x)(h1:x.state=1):(∃T bl,X.S.read x=(T,bl,0)/\L[b]? = some bl/\CI fz L T1 { X with S:=T })/\∃T bl n,X.S.check x=(T,bl,n,0)/\L[b]? = some bl/\CI fz L T1 { X with S:=T }:=by
 have p:=fun T (m:Mk X.S T)=>i.Hp m
 obtain⟨E,j⟩:=i;obtain⟨a,G,t⟩:=(j.en b x f).resolve_left fun y=>by rw[y.1]at h1;cases h1
 have J:¬(fz.z x.Ai/\fz.z x.Bj):=fun y=>a.at.2.2.2.1 (j.one _ _ y.1 y.2)
 obtain⟨⟨T,e1,_⟩,U,n,e2,_⟩:=j.a.toMI.Uw j.a.ab a G J fun w o s r=>.inl ⟨b,x,f,h1,r⟩
 have u:=AH X.S x;have D:=AJ X.S x;rw[e1]at u;rw[e2]at D;exact⟨⟨T,_,e1,t,p _ u⟩,U,_,n,e2,t,p _ D⟩
section
variable (A:Cf disp)(hK:10000<K)(C:D6 h B X F)
include C
include A hK
theorem YB(hd:22<=d){v5:Nat}(g5:h.get v5=some (.cells x.cells 87))(r:Vp x.Ai/\Vp x.Bj)(j:Int)(J:∃b:Nat,j=b/\X.es[b]? = some x)(h1:x.state=1):
 Hm (Xl (Ag TT disp K d false) (Ag TT disp K d true) K (.ptr B.c 0) (I j) (.ptr v5 0) h) h B X F:=by
 have lc:=C.hb _ _ C.core;have l5:=C.hb _ _ g5;simp only[Xl,Aa];rw[Jg lc,C.hJ];simp only[Aa,Au];rw[Jg l5,Cu g5 rfl (Ak (n:=6) rfl)];simp only[Aa,Au];refine Ok.bC (S:=fun j=>¬B.fr F j) (YC A hK (d:=d) a_ C.lift.M C.lift.hb r.1 r.2) (fun _ _ p=>p.2.2.2.1) ?_;rintro _ ax h2 s' ⟨rfl,t,M',_,a⟩ sm ch O;have c2:=C.Hp (M'.same sm) ch (sm.hb a) (AH _ x);obtain⟨b,rfl,J⟩:=J;have D:∀fz L,CI fz L T1 X->(X.S.read x).2.2=0/\L[b]? = some (X.S.read x).2.1:=fun fz L i=>by
  obtain⟨⟨T,bl,e,l,_⟩,_⟩:=i.read J h1;rw[e];exact⟨rfl,l⟩
 generalize X.S.read x=P at c2 t D⊢;obtain⟨S',bl,er⟩:=P;simp only at c2 t D⊢;generalize ({ X with S:=S' }:Co)=Y at c2⊢;have ul:(Be bl).length=32:=by rw[Az,t.1]
 simp only[Aa];rw[J1 (by rcases O with rfl|⟨w,rfl,_⟩<;>kernel_rfl)];refine Ok.st (Be bl) (Ad _ _) rfl (by show Fp (Be bl)=32;rw[Bb,ul]) (Bn (by rw[bO];exact ul.symm)) ?_;obtain⟨h3,e_,x3,g7,_⟩:=nP h2 (.cells (List.replicate 32 (EV.int .u8 0)) 81) (.cells (Be bl) 81);rw[e_];have c3:=c2.trans (c2.C.gN x3);simp only[I,Ac];by_cases h0:er=0
 ·simp only[h0,aB,Aa,CY]
  have U:=c3.hb _ _ c3.C.core;have l7:=c3.hb _ _ g7;rw[Jg U,c3.C.lC];simp only[Aa,Au];rw[Jg l7,Cu g7 rfl (Ak ul)];simp only[Aa,Au];have fe:=CW 3 Y.nx 1 (b:Int) t.1;rw[<-En.Hu]at fe;rw[show(EV.int .i64 3)=I 3 from rfl,show(EV.int .i64 1)=I 1 from rfl,show(EV.int .i64 (b:Int))=I b from rfl,Ax fe];refine Ok.bC (S:=fun j=>¬F j) (vP A hK (d:=d) a_ (⟨t.1,t.2⟩:(⟨3,Y.nx,1,b,0,0,bl⟩:En).Wf) c3.C.lift) (fun _ _ p=>by obtain⟨_,_,_,p⟩:=p;exact p.c.k) ?_;rintro _ a6 h4 s2 ⟨u,e2,Z,p⟩ V aa ad;have pv:=p.v;subst pv;have c4:G4 h3 h4 B Y F Z:=⟨p.c.C.same V,aa,p.c.ck⟩;have pz:∀fz L,CI fz L T1 X->CI fz L T1 Z/\¬e2=34/\(e2=0->CI fz L (orR T1 (Aom ⟨3,Y.nx,1,b,0,0,bl⟩ Z.ep u)) Z/\Avk Z.S.g Z.ep u ⟨3,Y.nx,1,b,0,0,bl⟩):=fun fz L i=>p.iv fz L T1 (fun _ _ _ _ y=>y) (c3.ck.iv fz L i)
  have c4:=c3.trans c4;simp only[Aa,I];rw[J1 (by rcases ad with rfl|⟨w,rfl,_⟩<;>kernel_rfl)];refine Ok.mk rfl rfl fun h5 x5 g9 _=>?_
  have f:=c4.trans (c4.C.gN x5);simp only[Ac];by_cases h0:e2=0
  ·simp only[h0,aC,aA,Aa,CZ]
   have ae:=f.hb _ _ f.C.core;have l9:=f.hb _ _ g9;rw[Jg ae,f.C.jC];simp only[Aa,Au];rw[Jg l9,Cu g9 rfl (Ak (n:=6) rfl)];simp only[Aa,Au];have st:=rH (K:=K) (x:=u) f.C.lift.sm f.C.lift.map f.C.lift.hb (fun _=>p.r) b;refine Ok.bC (S:=fun j=>¬F j) (st.mono fun v h' ⟨e,m,c,a⟩=>(⟨e,f.C.lift.sv m c a⟩:v=_/\_)) (fun _ _ p=>p.2.2) ?_;rintro _ bf h6 s3 ⟨rfl,C6,_⟩ af ag _;refine Hm.ret (Y:={ Z with es:=(jB Z.S.g Z.es b u).1 }) ⟨C6.same af,f.k.trans ag,f.ck.m.trans (Mk0.refl _),fun fz L i=>?_⟩ fun _ _ _=>CX _ _ _ _
   obtain⟨_,_,w⟩:=pz fz L i;obtain⟨w,eo⟩:=w h0;have hl:=(D fz L i).2;have hlen:b<Z.es.length:=by
    obtain⟨_,j⟩:=w;rw[<-j.len];exact(aZ.1 hl).1
   have cs:=w.set (b:=b) eo (show ¬(3:Int)=2 from c_) hlen;have e:(jB Z.S.g Z.es b u).1=Z.es.set b u:=by
    unfold jB;rw[aK ⟨a_,a_⟩,aK eo.meR,bF]
   rw[e];rw[YA hl]at cs;exact cs
  ·simp only[h0,aG,aB,Aa]
   exact Hm.ret f fun fz L i=>(pz fz L i).2.1
 simp only[h0,aA,Aa,Ac];by_cases G:er=41
 ·simp only[G,aB,Aa]
  rw[c3.C.jC,Ax (l:=(Me.nil 2).cells) rfl];refine Ok.Ao (rH (K:=K) (x:=Me.nil 2) c3.C.sm c3.C.map c3.C.hb (fun y=>by cases y) b) ?_;rintro _ h4 ⟨rfl,m,c,a⟩;have s:=c3.C.sv m c a;exact Hm.ret (Y:={ Y with es:=(jB Y.S.g Y.es b (Me.nil 2)).1 }) ⟨s.1,c3.k.trans s.2,c3.ck.m.trans (Mk0.refl _),fun fz L i=>absurd (D fz L i).1 h0⟩ fun _ _ _=>CX _ _ _ _
 ·simp only[G,aA,Aa]
  exact Hm.ret c3 fun fz L i=>absurd (D fz L i).1 h0
theorem C_(hd:23<=d)(j:Int):Hm (Ag TT disp K d false 84 [.ptr B.c 0,I j] h) h B X F:=by
 obtain⟨e,rfl⟩:=fc d;rw[YD A a_];simp only[DC,Aa];rw[C.jC];refine Ok.Ao (Zu (K:=K) C.sm C.map C.hb j) ?_;rintro _ h2 ⟨rfl,a⟩;have rg:=vK C.sm (vi C.map.ok j);have c2:=C.gN a;simp only[Aa];have gs:=X_ (es:=X.es) (j:=j);generalize (hU X.es j).1=x at rg gs⊢;refine Ok.mk rfl rfl fun h3 f e3 _=>?_
 have c3:=c2.trans (c2.C.gN f);rw[Al e3 rfl (v:=I x.state) rfl];simp only[I,Ac];by_cases h1:x.state=1
 ·simp only[h1,aC,aA,Aa]
  exact Hm.from c3 (YB A hK c3.C (d:=e) a_ e3 rg j (gs h1) h1)
 ·simp only[h1,aG,aB,Aa]
  exact Hm.ret c3
end
end
section
theorem G4.less{G:Nat->Prop}(c:G4 h h' B X G Y)(s:∀i,F i->G i):G4 h h' B X F Y:=⟨c.C.less s,c.k.less s,c.ck⟩
section
variable (A:Cf disp)(hK:10000<K)(C:D6 h B X F)
include A hK
theorem YE(hd:23<=d){s:EV}{L:List Nat}(hL:L.length<=256)(t:0<L.length->F q):∀(f i:Nat) (h1:Ab) (Y:Co),L.length-i<f->i<=L.length->G4 h h1 B X F Y->Ce h1 s q 3 1 L.length (L.map nI) ->
 Hm (Lq (Ag TT disp K d false) (Ag TT disp K d true) K f (.ptr B.c 0) s (I L.length) (I i) h1) h B X F:=by
 intro f;induction f with
 | zero=>intro i h1 Y u;omega
 | succ f D=>
  intro i h1 Y u hi c1 row;rw[Lq];simp only[I,Ac];by_cases a:i<L.length
  ·have:decide ((i:Int)<(L.length:Int))=true:=by simp;omega
   simp only[this,Aa,DD];have ix:=row.ix a .i64;rw[ix,br,Al (row.block a_) rfl (v:=I (L[i]:Int)) (by rw[bB,aE a];rfl)];refine Ok.Ao (C_ A hK c1.C hd (L[i]:Int)) ?_;rintro _ h2 ⟨e2,Z,rfl,c2,p⟩;simp only[I,Ac];by_cases h0:e2=0
   ·have bl:=hL
    simp only[h0,aC,aA,Aa,DE,Ac];rw[Cn,show((i:Nat):Int)+1=((i+1:Nat):Int) from a_];exact D (i+1) h2 Z a_ a_ (c1.trans c2) (row.frame fun y=>c2.k.get _ (c1.hb _ _ (row.block y)) fun w=>w (t y))
   ·simp only[h0,aG,aB,Aa]
    exact Hm.ret (c1.trans c2) fun fz L i=>p fz L (c1.ck.iv fz L i)
  ·have:decide ((i:Int)<(L.length:Int))=false:=by simp;omega
   simp only[this,Aa,DF];refine Hm.then c1 (sx A hK c1.C (d:=d)) fun e2 h2 Z c2 p=>Hm.ret c2 p
include C
theorem DG(hd:24<=d){z:Int}(p:Vp z):Hm (Ag TT disp K d false 48 [.ptr B.c 0,I z] h) h B X F:=by
 obtain⟨e,rfl⟩:=fc d;rw[YF A a_];simp only[DH,Aa];refine Ok.Ao (vJ A hK C (d:=e) a_ p) ?_;rintro _ h2 ⟨rfl,u⟩;have c2:=C.rd u;cases X.closed z with
 | false=>
  simp only[Aa];exact Hm.ret c2
 | true=>
 simp only[Aa,DJ];refine Ok.Ao (XI A hK c2.C (d:=e) a_ z) ?_;rintro v h3 ⟨a,q,row,lq⟩;have bl:=B_ z X.es X.es.length;have el:=C.CE;generalize jD z X.es X.es.length=L at row lq bl⊢;rw[row.Gi];have D:D6 h3 B X (fun i=>F i\/(0<L.length/\i=q)):=by
  obtain⟨⟨T,k,t⟩,_⟩:=a;refine(c2.C.kp k).less fun i hi=>?_
  rcases hi with hi|⟨f,rfl⟩
  ·exact .inl hi
  ·exact .inr ⟨lq f,(k.chg.hb c2.C.hb) _ _ (row.block f)⟩
 have:=YE A hK (d:=e) a_ (F:=fun i=>F i\/(0<L.length/\i=q)) (s:=v) (q:=q) (L:=L) a_ (fun y=>.inr ⟨y,rfl⟩) K 0 h3 X a_ a_ (G4.refl D) row;refine Ok.mono this ?_;rintro _ h4 ⟨e4,Y,rfl,c4,n4⟩;have c4:=c4.less (F:=F) fun i=>.inl
 exact⟨e4,Y,rfl,(c2.trans (c2.C.rd a)).trans c4,n4⟩
theorem DK(hk:∀(n:Int) h',Ext h h'->Ok (k (.int .i64 n) h') Q):Ok (Ao (Ci K (.ptr B.m 0) h) fun v h=>Ao (Ik K v h) k) Q:=
 WI hK C.M C.hb fun h' x=>hk _ h' x
theorem YG {d:Int}:Vp (X.Qe (X.S.g.D*X.S.g.Z).toNat):=by
 have b:=X.vL (X.S.g.D*X.S.g.Z).toNat;have:=C.sm.mq;exact⟨a_,a_⟩
theorem YH(hd:25<=d):Ok (Ag TT disp K d false 87 [.ptr B.c 0] h) fun v h'=>∃(b:Bool) (e:Int) (Y:Co),v=.tuple [.bool b,I e]/\G4 h h' B X F Y/\∀fz L,CI fz L T1 X->¬e=34:=by
 obtain⟨e,rfl⟩:=fc d;rw[YI A a_];simp only[DL,Aa];refine Ok.Ao (WN A hK C (d:=e) a_) ?_;rintro _ h2 ⟨⟨b,rfl⟩,p⟩;have c2:=C.rd p;cases b with
 | true=>
  simp only[Aa];refine Ok.Ao (sx A hK c2.C (d:=e)) ?_;rintro _ h3 ⟨e3,Y,rfl,c3,n3⟩;exact .ret ⟨true,e3,Y,rfl,c2.trans c3,n3⟩
 | false=>
  simp only[Aa,DM];refine Ok.Ao (XL A hK c2.C (d:=e) a_) ?_;rintro _ h3 ⟨rfl,t⟩;have c3:=c2.trans (c2.C.rd t);have a:=YG A hK C (d:=0);generalize X.Qe (X.S.g.D*X.S.g.Z).toNat=z at a⊢;simp only[I,Ac];by_cases f:z = -1
  ·simp only[f,aB,Aa]
   exact .ret ⟨false,0,X,rfl,c3,fun _ _ _=>c_⟩
  ·simp only[f,aA,Aa,DN]
   refine Ok.Ao (DG A hK c3.C (d:=e) a_ a) ?_;rintro _ h4 ⟨e4,Y,rfl,c4,n4⟩;exact .ret ⟨true,e4,Y,rfl,c3.trans c4,n4⟩
theorem vQ(c1:G4 h h1 B X F Y)(n:Int)(d:Nat):Hm (Rj (Ag TT disp K d false) (Ag TT disp K d true) K (.ptr B.c 0) (I n) h1) h B X F:=by
 simp only[Rj,Aa];rw[c1.C.hJ];refine DK A hK c1.C fun p h2 t=>?_
 have c2:=c1.trans (c1.C.gN t);have u:E4 (.tuple []) false=false/\E4 (.tuple []) true=false:=⟨rfl,rfl⟩;simp only[I,Ac];by_cases a:p=0
 ·simp only[a,aB,Aa,Ac]
  by_cases f:0<n
  ·simp only[f,aB,Rs,Aa]
   exact Hm.ret c2
  ·simp only[f,aA,Rs,Aa,Ws]
   exact Hm.ret c2
 ·simp only[a,aA,Aa,Ac,Rs,Ws]
  exact Hm.ret c2
theorem YJ(hd:25<=d)(n:Int){N:Nat}(M:N<=5000):∀(f i:Nat) (h1:Ab) (Y:Co),N-i<f->i<=N->G4 h h1 B X F Y ->
 Hm (Np (Ag TT disp K d false) (Ag TT disp K d true) K f (.ptr B.c 0) (I n) (I N) (I i) h1) h B X F:=by
 intro f;induction f with
 | zero=>intro i h1 Y u;omega
 | succ f y=>
  intro i h1 Y u hi c1;rw[Np];simp only[I,Ac];by_cases D:i<N
  ·have:decide ((i:Int)<(N:Int))=true:=by simp;omega
   simp only[this,Aa,DO];rw[c1.C.hJ];refine DK A hK c1.C fun p h2 G=>?_
   have c2:=c1.trans (c1.C.gN G);simp only[Ac];by_cases t:n<=p
   ·simp only[t,aB,Aa]
    exact Hm.ret c2
   simp only[t,aA,Aa,DP];refine Ok.Ao (YH A hK c2.C hd) ?_;rintro _ h3 ⟨b,e,Z,rfl,c3,n3⟩;have n3:∀fz L,CI fz L T1 X->¬e=34:=fun fz L i=>n3 fz L (c2.ck.iv fz L i)
   have c3:=c2.trans c3;have J:E4 (.tuple []) false=false/\E4 (.tuple []) true=false:=⟨rfl,rfl⟩;simp only[Aa,I,Ac];by_cases a:e=34
   ·rw[a]at n3
    simp only[a,aB,Aa];exact Hm.ret c3 n3
   simp only[a,aA,Aa,DQ];cases b with
   | false=>
    simp only[Aa,Ac,Rq];exact vQ A hK C c3 n d
   | true=>
    simp only[Aa,Ac];by_cases h0:e=0
    ·simp only[h0,aC,aA,Aa,Ac,Rq,DR]
     rw[Cn,show((i:Nat):Int)+1=((i+1:Nat):Int) from a_];exact y (i+1) h3 Z a_ a_ c3
    ·simp only[h0,aG,aB,Aa,Ac,Rq]
     exact vQ A hK C c3 n d
  ·have:decide ((i:Int)<(N:Int))=false:=by simp;omega
   simp only[this,Aa];exact vQ A hK C c1 n d
theorem DS(hd:26<=d)(n:Int):Hm (Ag TT disp K d false 49 [.ptr B.c 0,I n] h) h B X F:=by
 obtain⟨e,rfl⟩:=fc d;rw[YK A a_];simp only[DT,Aa,I,Ac];have a:E4 (.tuple []) false=false/\E4 (.tuple []) true=false:=⟨rfl,rfl⟩;by_cases h0:n<0
 ·simp only[h0,aB,Aa,Ac,Py]
  exact Hm.ret (G4.refl C)
 simp only[h0,aA,Aa,Ac];rw[C.hJ];refine p_ A C fun h2 f=>?_
 have c2:=C.gN f;simp only[I,Ac];by_cases h1:X.S.g.D*X.S.g.Z<n
 ·simp only[h1,aB,Aa,Ac,Py]
  exact Hm.ret c2
 simp only[h1,aA,Aa,Ac,Py,DU];rw[c2.C.hJ];refine p_ A c2.C fun h3 p=>?_
 have c3:=c2.trans (c2.C.gN p);have bd:=C.sm.mq;obtain⟨N,t⟩:=bD (show 0<=2*(X.S.g.D*X.S.g.Z) from a_);simp only[I,Ac];rw[Cn,t];exact YJ A hK C (d:=e) a_ n a_ K 0 h3 X a_ a_ c3
theorem vR(hd:27<=d:=by omega):Hm (Ag TT disp K d false 68 [.ptr B.c 0] h) h B X F:=by
 obtain⟨e,rfl⟩:=fc d;rw[YL A a_];simp only[DV,Aa];rw[C.hJ];refine Ok.Ao (O8 (K:=K) C.M C.hb) ?_;rintro _ h2 ⟨rfl,a⟩;rw[DW C.sm,Ar];have c3:=C.gN (a.Dn (.cells (gL X.S.g) 23));exact Hm.then c3 (DS A hK c3.C (d:=e) a_ _) fun e4 h4 Z c4 n4=>Hm.ret c4 n4
end
end
section
theorem C0.vS(M:C0 h m S F)(c:As T h h')(t:∀i,T i->i<h.next->F i):C0 h' m S (Bi F h h'):=by
 refine⟨(M.s.frame c.next fun i hi=>c.get i hi.1 fun y=>hi.2 (t i y hi.1)).mono (fun i hi=>⟨aL hi.1 c.next,fun y=>?_⟩) fun i hi=>hi.1,Bi.lt M.lt c.next,M.wf⟩;rcases y with y|y
 ·exact hi.2 y
 ·have:=hi.1;omega
theorem D6.vS(C:D6 h B X F)(c:As T h h')(t:∀i,T i->i<h.next->F i)(a:HB h'):D6 h' B X (Bi F h h'):=by
 have f:=C.iC c t a;refine⟨(C.M.vS c fun i hi p=>.inl (t i hi p)).less fun i hi=>?_,f.core,f.ar,f.map,C.wf,fun i hi=>?_,a⟩
 ·rcases hi with(hi|hi)|hi
  ·exact .inl (.inl hi)
  ·exact .inr hi
  ·exact .inl (.inr hi)
 ·rcases hi with hi|hi
  ·exact C.out i hi
  ·intro y
   have u:=C.hb _ _ C.core;have D:=C.hb _ _ C.ar;have a3:=C.hb _ _ C.map.map;have a4:=C.hb _ _ C.map.row;have G:=C.hb _ _ C.map.live;rcases y with y|y|y|y|y<;>omega
structure Wr where
 block:Int
 bytes:List Nat
def Wr.Wf(w:Wr):Prop:=w.bytes.length=32/\∀b∈w.bytes,b<256
def Wr.cells(w:Wr):List EV:=I w.block::Be w.bytes
theorem Wr.len {w:Wr}(f:w.Wf):w.cells.length=33:=by unfold Wr.cells;rw[bP,Az,f.1]
structure jE(h:Ab)(v:EV)(b:Nat)(L:List Wr):Prop where
 row:(v=.Am/\L = [])\/∃off r op,v=.slice b off L.length r op/\∀j (hj:j<L.length) (k:EV->R),Q4 33 (.ptr b (off+j*33)) h k=k (.agg L[j].cells)
 wf:∀w∈L,w.Wf
theorem jE.frame{L:List Wr}(r:jE h v b L)(e:0<L.length->h'.get b=h.get b):jE h' v b L:=by
 refine⟨?_,r.wf⟩;rcases r.row with y|⟨off,a,op,rfl,y⟩
 ·exact .inl y
 ·refine .inr ⟨off,a,op,rfl,fun j hj k=>?_⟩
  have:=y j hj k;show oB _ (jY (h'.get b) _ 33)=_;rw[e a_];exact this
theorem jE.Gi{L:List Wr}(r:jE h v b L)(k:EV->R):Ev.Gi v k=k (I L.length):=by
 rcases r.row with⟨rfl,rfl⟩|⟨off,a,op,rfl,_⟩<;>rfl
theorem jE.at{L:List Wr}(r:jE h v b L)(hj:j<L.length)(k:EV->R):Wn 33 v (.int .i64 (j:Int)) (fun p=>Q4 33 p h k)=k (.agg L[j].cells):=by
 rcases r.row with⟨rfl,rfl⟩|⟨off,a,op,rfl,y⟩
 ·exact absurd hj (cJ _)
 ·rw[Lg hj];exact y j hj k
theorem sB: [EV.int .i64 0]++List.replicate 32 (EV.int .u8 0)=(⟨0,Di⟩:Wr).cells:=by kernel_rfl
theorem DY(C:D6 h B X F)(j:Int):Ok (Uv K (.ptr B.c 0) (I j) h) fun v h'=>v=.bool (decide (0<=j)&&decide (j<X.S.g.B))/\Ext h h':=by
 simp only[Uv,I,Ac,Aa];have a:E4 (.tuple []) false=false/\E4 (.tuple []) true=false:=⟨rfl,rfl⟩;by_cases h0:0<=j
 ·simp only[h0,aB,Aa,Ac]
  rw[C.hJ];refine Ok.Ao (O8 (K:=K) C.M C.hb) ?_;rintro _ h2 ⟨rfl,f⟩;unfold gV;rw[vM (v:=I X.S.g.B) rfl];simp only[I,Ac,Aa,Zz];exact .ret ⟨by simp,f⟩
 ·simp only[h0,aA,Aa,Ac,Zz]
  exact .ret ⟨rfl,As.refl _⟩
def jM(g:Gm)(w:Wr):Bool:=decide (0<=w.block)&&decide (w.block<g.B)
def Aq5(g:Gm)(L:List Wr):Bool:=L.all (jM g)&&(decide (1<=(L.length:Int))&&decide ((L.length:Int)<=4))
theorem YM {p:Wr->Bool}{L:List Wr}(hi:i<L.length)(h:(L.take i).all p=true)(a:p L[i]=true):(L.take (i+1)).all p=true:=by
 rw[List.take_add_one,aE hi,List.all_append,h];simp[a]
section
variable{L:List Wr}(fb:0<L.length->F b)(hL:L.length<=2000000)
include fb hL
theorem YN:∀(f i:Nat) (h:Ab),L.length-i<f->i<=L.length->(L.take i).all (jM X.S.g)=true->D6 h B X F->jE h v b L ->
 Ok (Nl K f (.ptr B.c 0) v v (I L.length) (I i) h) fun w h'=>w=.bool (Aq5 X.S.g L)/\Ext h h':=by
 intro f;induction f with
 | zero=>intro i h O;omega
 | succ f P=>
  intro i h O hi D C W;rw[Nl];simp only[I,Ac];by_cases t:i<L.length
  ·have:decide ((i:Int)<(L.length:Int))=true:=by simp;omega
   simp only[this,Aa,DZ];rw[W.at t];have wf:=W.wf _ (bA t);have G:=YM (p:=jM X.S.g) t D;have u:jM X.S.g L[i]=false->L.all (jM X.S.g)=false:=fun y=>by
    rw[List.all_eq_false];exact⟨_,bA t,by rw[y];simp⟩
   generalize L[i]=w at wf G u⊢;have wl:=Wr.len wf
   try simp only[Aa]
   rw[sB];refine Ok.mk rfl wl fun h3 J e3 _=>?_
   rw[Al e3 rfl (v:=I w.block) rfl];refine Ok.Ao (DY (K:=K) (C.gN J).C w.block) ?_;rintro _ h4 ⟨rfl,U⟩;have x:=J.trans U;show Ok (i_ (.bool (jM X.S.g w)) _) _;cases hw:jM X.S.g w with
   | false=>
    simp only[Aa];exact .ret ⟨by unfold Aq5;rw[u hw,a8],x⟩
   | true=>
    simp only[Aa,D_,Ac];rw[Cn,show((i:Nat):Int)+1=((i+1:Nat):Int) from a_];refine Ok.mono (P (i+1) h4 a_ a_ (G hw) (C.gN x).C (W.frame fun y=>x.get _ (C.M.lt _ (.inl (fb y))) id)) ?_;rintro w h5 ⟨a,V⟩;exact⟨a,x.trans V⟩
  ·have:decide ((i:Int)<(L.length:Int))=false:=by simp;omega
   have aa:E4 (.tuple []) false=false/\E4 (.tuple []) true=false:=⟨rfl,rfl⟩;have ei:i=L.length:=a_
   rw[ei,cM]at D;simp only[this,Aa,EA];rw[W.Gi];unfold Aq5;rw[D];simp only[I,Ac];by_cases h1:1<=(L.length:Int)
   ·simp only[h1,aB,Aa,Ac]
    rw[W.Gi];simp only[I,Ac,Xi,Aa];exact .ret ⟨rfl,As.refl _⟩
   ·simp only[h1,aA,Aa,Ac,Xi]
    exact .ret ⟨rfl,As.refl _⟩
end
structure EB(h:Ab)(s:EV)(q:Nat)(xs:List Me):Prop where
 row:Ce h s q 87 6 xs.length (xs.map Me.cells).flatten
 rng:∀x∈xs,Vp x.Ai/\Vp x.Bj
def fB(W:List Wr)(k:Nat):Nat:=((W[k]?).getD ⟨0,Di⟩).block.toNat
def fY(W:List Wr)(k:Nat):List Nat:=((W[k]?).getD ⟨0,Di⟩).bytes
def fX(xs:List Me)(k:Nat):Me:=(xs[k]?).getD (Me.nil 0)
def jt(L:List (List Nat))(W:List Wr):Nat->List (List Nat)
 | 0=>L
 | n+1=>(jt L W n).set (fB W n) (fY W n)
def oK(first:Int)(W:List Wr)(k:Nat):En:=⟨1,first,W.length,((W[k]?).getD ⟨0,Di⟩).block,0,0,fY W k⟩
def sC(first ep:Int)(W:List Wr)(xs:List Me)(i:Nat):Tv:=fun w o s=>∃k,i<=k/\k<xs.length/\Aom (oK first W k) ep (fX xs k) w o s
structure il(h h':Ab)(B:Cb)(X:Co)(F:Nat->Prop)(Y:Co):Prop where
 C:D6 h' B Y F
 k:Kf F h h'
 m:Mk0 X.S Y.S
theorem G4.t0(c:G4 h h' B X F Y):il h h' B X F Y:=⟨c.C,c.k,c.ck.m⟩
theorem il.trans(a:il h1 h2 B X F Y)(b:il h2 h3 B Y F Z):il h1 h3 B X F Z:=⟨b.C,a.k.trans b.k,a.m.trans b.m⟩
theorem il.less{G:Nat->Prop}(c:il h h' B X G Y)(s:∀i,F i->G i):il h h' B X F Y:=⟨c.C.less s,c.k.less s,c.m⟩
theorem il.gN(c:il h h1 B X F Y)(x:Ext h1 h2):il h h2 B X F Y:=c.trans (c.C.gN x).t0
section
variable (A:Cf disp)(hK:10000<K){W:List Wr}(fb:0<W.length->F b)(hL:W.length<=4)
include A hK fb hL
theorem YO{s:EV}{xs:List Me}{first:Int}{g:Gm}(hx:W.length=xs.length)(fq:0<xs.length->F q)(hw:∀w∈W,jM g w=true)
 (he:∀fz L,P0 fz L->∀k,k<xs.length->Avk g ep (fX xs k) (oK first W k)):∀(f i:Nat) (h1:Ab) (Y:Co),W.length-i<f->i<=W.length->il h h1 B X F Y->Y.S.g=g->Y.ep=ep->(∀fz L,P0 fz L->CI fz (jt L W i) (sC first ep W xs i) Y)->jE h1 v b W->EB h1 s q xs ->
 Ok (I5 (Ag TT disp K d false) (Ag TT disp K d true) K f (.ptr B.c 0) s v (I W.length) (I i) h1) fun v h'=>∃Z,v=I 0/\il h h' B X F Z/\∀fz L,P0 fz L->CI fz (jt L W W.length) T1 Z:=by
 intro f;induction f with
 | zero=>intro i h1 Y hf;omega
 | succ f ih=>
  intro i h1 Y hf hi c1 J U hI V P;rw[I5];simp only[I,Ac];by_cases u:i<W.length
  ·have:decide ((i:Int)<(W.length:Int))=true:=by simp;omega
   simp only[this,Aa,EC];rw[V.at u];have wf:=V.wf _ (bA u);have wh:=hw _ (bA u);have wb:fB W i=W[i].block.toNat:=by unfold fB;rw[aE u];rfl
   generalize W[i]=w at wf wh wb⊢;have wl:=Wr.len wf;unfold jM at wh;simp only[aX,aW]at wh
   try simp only[Aa]
   rw[sB];refine Ok.mk rfl wl fun h3 O e3 _=>?_
   have c3:=c1.gN O;have lc:=c3.C.hb _ _ c3.C.core;have l3:=c3.C.hb _ _ e3;have hq:0<xs.length:=a_
   have t:=P.row.frame (h':=h3) fun y=>O.get _ (c1.C.hb _ _ (P.row.block y)) id
   have lq:=c3.C.hb _ _ (t.block hq);have a:i<xs.length:=a_
   rw[Jg lc,c3.C.jC];simp only[Aa,Au];rw[Jg l3,Al e3 rfl (v:=I w.block) rfl];simp only[Aa,Au];have ix:=t.ix a .i64;rw[ix,Jg lq,Cu (t.block hq) rfl (rG xs a)];simp only[Aa,Au];have rg:=P.rng _ (bA a);have ex:fX xs i=xs[i]:=by unfold fX;rw[aE a];rfl
   rw[<-ex]at rg⊢;have st:=rH (K:=K) (x:=fX xs i) c3.C.lift.sm c3.C.lift.map c3.C.lift.hb (fun _=>rg) w.block;refine Ok.bC (S:=fun j=>¬F j) (st.mono fun v h' ⟨e,m,c,ad⟩=>(⟨e,c3.C.lift.sv m c ad⟩:v=_/\_)) (fun _ _ p=>p.2.2) ?_;rintro _ aw h6 s3 ⟨rfl,C6,_⟩ af ag _;have D:il h3 h6 B Y F { Y with es:=(jB Y.S.g Y.es w.block (fX xs i)).1 }:=⟨C6.same af,ag,Mk0.refl _⟩;simp only[ED,Ac];rw[Cn,show((i:Nat):Int)+1=((i+1:Nat):Int) from a_];have G:∀j,F j->h6.get j=h1.get j:=fun j hj=>by
    have l:=c1.C.M.lt _ (.inl hj);rw[D.k.get _ (aL l O.next) fun y=>y hj,O.get _ l id]
   refine ih (i+1) h6 _ a_ a_ (c3.trans D) J U (fun fz L p=>?_) (V.frame fun y=>G _ (fb y)) ⟨P.row.frame fun y=>G _ (fq y),P.rng⟩;have eo:=he fz L p i a;have hlen:w.block.toNat<Y.es.length:=by
    have:=c1.C.map.len;rw[J]at this;omega
   have cs:=CI.set (e:=oK first W i) (b:=w.block.toNat) (Rx:=sC first ep W xs (i+1)) ((hI fz L p).sub fun w o s r=>by
    rcases r with⟨k,k1,k2,r⟩|r
    ·exact⟨k,a_,k2,r⟩
    ·exact⟨i,aD _,a,by rw[<-U];exact r⟩) (by rw[J,U];exact eo) (show ¬(1:Int)=2 from c_) hlen
   have e:(jB Y.S.g Y.es w.block (fX xs i)).1=Y.es.set w.block.toNat (fX xs i):=by
    unfold jB;rw[aK ⟨a_,a_⟩,aK (by rw[J];exact eo.meR)]
   rw[e];have es:jt L W (i+1)=(jt L W i).set (fB W i) (fY W i):=rfl;rw[es,wb];exact cs
  ·have:decide ((i:Int)<(W.length:Int))=false:=by simp;omega
   simp only[this,Aa,Vf];have ei:i=W.length:=a_
   subst ei;exact .ret ⟨Y,rfl,c1,fun fz L p=>(hI fz L p).sub fun _ _ _ y=>y.elim⟩
theorem YP(hd:22<=d)(aa:∀j,F j->j<h.next)(first:Int)(hw:∀w∈W,jM X.S.g w=true):∀(f i:Nat) (h1:Ab) (Y:Co) (s:EV) (q:Nat) (xs:List Me),W.length-i<f->i<=W.length->xs.length=i->(0<xs.length->Y.st=false)->(∀fz L,CI fz L T1 X->CI fz L (sC first Y.ep W xs 0) Y/\∀k,k<xs.length->Avk Y.S.g Y.ep (fX xs k) (oK first W k))->G4 h h1 B X F Y->D6 h1 B Y (fun j=>F j\/(0<xs.length/\j=q))->(0<xs.length->h.next<=q)->jE h1 v b W->EB h1 s q xs ->
 Ok (Ih (Ag TT disp K d false) (Ag TT disp K d true) K f (.ptr B.c 0) v (I first) s v (I W.length) (I i) h1) fun v h'=>∃(e:Int) (Z:Co),v=I e/\il h h' B X F Z/\∀fz L,CI fz L T1 X->¬e=34/\CI fz (if e=0 then jt L W W.length else L) T1 Z:=by
 intro f;induction f with
 | zero=>intro i h1 Y s q xs hf;omega
 | succ f ih=>
  intro i h1 Y s q xs hf hi au ad hI c1 C1 hq U P;rw[Ih];simp only[I,Ac];have ax:∀j,F j->j<h1.next:=fun j hj=>c1.C.M.lt _ (.inl hj)
  by_cases G:i<W.length
  ·have:decide ((i:Int)<(W.length:Int))=true:=by simp;omega
   simp only[this,Aa,EE];rw[U.at G];have wf:=U.wf _ (bA G);have ew:oK first W i=⟨1,first,W.length,W[i].block,0,0,W[i].bytes⟩:=by unfold oK fY;rw[aE G];rfl
   generalize W[i]=w at wf ew⊢;have wl:=Wr.len wf
   try simp only[Aa]
   rw[sB];refine Ok.mk rfl wl fun h3 x3 e3 _=>?_
   rw[U.Gi]
   try simp only[Aa]
   rw[Al e3 rfl (v:=I w.block) rfl]
   try simp only[Aa]
   rw[Cu e3 rfl (show Ly w.cells 1 32=some (Be w.bytes) by
    rw[Eg a_];unfold Wr.cells;rw[List.drop_succ_cons,cZ,bQ (by rw[Az,wf.1];omega)])]
   have fe:=CW 1 first W.length w.block wf.1
   rw[<-En.Hu]at fe;rw[show(EV.int .i64 1)=I 1 from rfl,show(EV.int .i64 first)=I first from rfl,Ax fe];have C3:=(C1.gN x3).C;have p0:=vP A hK hd (⟨wf.1,wf.2⟩:(⟨1,first,W.length,w.block,0,0,w.bytes⟩:En).Wf) C3;refine Ok.Ao p0 ?_;rintro _ h4 ⟨x,er,Z,⟨rfl,rg,c4,ae,pk,ay⟩⟩;rw[<-ew]at ae;have t:∀fz L,CI fz L T1 X->_:=fun fz L p=>ae fz L (sC first Y.ep W xs 0) (fun y w o s r=>by
    obtain⟨k,_,k2,_⟩:=r;rw[ad a_]at y;cases y) (hI fz L p).1
   have u:G4 h1 h4 B Y (fun j=>F j\/(0<xs.length/\j=q)) Z:=(C1.gN x3).trans c4;have af:G4 h h4 B X F Z:=c1.trans (u.less fun j=>.inl);simp only[Aa];refine Ok.mk rfl rfl fun V x5 e5 _=>?_
   have D:=af.trans (af.C.gN x5);have J:=u.trans (u.C.gN x5);have ag:∀j,(F j\/(0<xs.length/\j=q))->j<h1.next->V.get j=h1.get j:=fun j hj l=>J.k.get _ l fun y=>y hj
   simp only[I,Ac];by_cases h0:er=0
   case neg=>
    simp only[h0,aG,aB,Aa];exact .ret ⟨er,Z,rfl,D.t0,fun fz L p=>⟨(t fz L p).2.1,by rw[aH h0];exact(t fz L p).1.sub fun _ _ _ y=>y.elim⟩⟩
   simp only[h0,aC,aA,Aa,EF];rw[Cu e5 rfl (Ak (n:=6) rfl)];have ah:=P.row.frame (h':=V) fun y=>ag _ (.inr ⟨y,rfl⟩) (c1.hb _ _ (P.row.block y))
   have ai:=D.hb;refine Ny (z:=[.int .i64 0,.int .i64 0,.int .i64 0,.int .i64 0,.int .i64 0,.int .i64 0]) (v:=.agg x.cells) ah ai rfl rfl rfl a_ a_ fun h6 al ca c6=>?_
   have a5:=c6.hb ai;have C6:=J.C.vS c6 (fun j hj hl=>.inr ⟨hj.1,hj.2⟩) a5;have a6:D6 h6 B Z (fun j=>F j\/(0<(xs++[x]).length/\j=V.next+1)):=C6.less fun j hj=>by
    rcases hj with hj|⟨_,rfl⟩
    ·exact .inl (.inl hj)
    ·exact .inr ⟨a_,a_⟩
   have ao:Kf F V h6:=c6.mono fun j hj y=>by
    have a:=aa j y;have b:=hq hj.1;have e:=hj.2;omega
   have a7:G4 h h6 B X F Z:=D.trans ⟨C6.less fun j hj=>.inl (.inl hj),ao,Ck.refl _⟩;have ba:∀j,F j->h6.get j=h1.get j:=fun j hj=>by
    have l:=ax j hj;have l5:=aL l J.k.next
    rw[ao.get _ l5 (fun y=>y hj)];exact ag _ (.inl hj) l
   simp only[EG,Ac];rw[Cn,show((i:Nat):Int)+1=((i+1:Nat):Int) from a_];have lx:(xs++[x]).length=xs.length+1:=by simp
   have bu:=D.k.next
   have eZ:∀k,k<xs.length->Z.ep=Y.ep:=fun k hk=>(pk (ad a_)).1
   have fx:∀k,k<xs.length->fX (xs++[x]) k=fX xs k:=fun k hk=>by unfold fX;rw[bW hk]
   have fl:fX (xs++[x]) i=x:=by unfold fX;rw[<-au,bU (aD _),fG];rfl
   have:=ih (i+1) h6 Z (.slice (V.next+1) 0 (xs.length+1) (xs.length+1) true) (V.next+1) (xs++[x]) a_ a_ a_ (fun _=>ay h0) (fun fz L p=>?_) a7 a6 (fun _=>by omega) (U.frame fun y=>ba _ (fb y)) ⟨by rw[lx,cI,cz,show([x].map Me.cells).flatten=(EV.agg x.cells).cells by simp[EV.cells]];exact al,fun z t=>by
    rcases bH.1 t with t|t
    ·exact P.rng z t
    ·rw[aN.1 t];exact rg⟩
   ·exact this
   ·obtain⟨a1,_,a2⟩:=t fz L p
    obtain⟨a2,a3⟩:=a2 h0;refine⟨a2.sub fun w o s r=>?_,fun k hk=>?_⟩
    ·obtain⟨k,_,k2,r⟩:=r
     rw[lx]at k2;by_cases hk:k<xs.length
     ·rw[fx k hk,eZ k hk]at r
      exact .inl ⟨k,cF _,hk,r⟩
     ·have:k=i:=a_
      subst this;rw[fl]at r;exact .inr r
    ·rw[lx]at hk
     by_cases O:k<xs.length
     ·have:=(hI fz L p).2 k O
      rw[fx k O,eZ k O];rw[show Z.S.g=Y.S.g from u.ck.g];exact this
     ·have:k=i:=a_
      subst this;rw[fl];exact a3
  ·have:decide ((i:Int)<(W.length:Int))=false:=by simp;omega
   simp only[this,Aa,Va];rw[U.Gi];have w:=YO A hK (X:=Y) (F:=fun j=>F j\/(0<xs.length/\j=q)) (v:=v) (b:=b) (W:=W) (fun y=>.inl (fb y)) hL (d:=d) (s:=s) (q:=q) (xs:=xs) (first:=first) (g:=Y.S.g) (ep:=Y.ep) (P0:=fun fz L=>CI fz L T1 X) a_ (fun y=>.inr ⟨y,rfl⟩) (by rw[c1.ck.g];exact hw) (fun fz L p=>(hI fz L p).2) K 0 h1 Y a_ a_ (G4.refl C1).t0 rfl rfl (fun fz L p=>(hI fz L p).1) U P;refine Ok.mono w ?_;rintro _ h2 ⟨Z,rfl,c2,iz⟩;exact⟨0,Z,rfl,c1.t0.trans (c2.less fun j=>.inl),fun fz L p=>⟨c_,by rw[aK rfl];exact iz fz L p⟩⟩
end
theorem YQ(A:Cf disp)(hK:3000000<K){W:List Wr}(fb:0<W.length->F b)(hL:W.length<=2000000)(hd:28<=d)(C:D6 h B X F)(p:jE h v b W):Ok (Ag TT disp K d false 29 [.ptr B.c 0,v] h) fun v h'=>∃(e:Int) (Y:Co),v=I e/\il h h' B X F Y/\(e=0->Aq5 X.S.g W=true)/\∀fz L,CI fz L T1 X->¬e=34/\CI fz (if e=0 then jt L W W.length else L) T1 Y:=by
 obtain⟨e,rfl⟩:=fc d;rw[YR A a_];simp only[EH,Xn,Aa];rw[p.Gi];refine Ok.Ao (YN (K:=K) fb hL K 0 h a_ a_ rfl C p) ?_;rintro _ h2 ⟨rfl,u⟩;have c2:=C.gN u;cases D:Aq5 X.S.g W with
 | false=>
  simp only[Aa];exact .ret ⟨13,X,rfl,c2.t0,fun y=>(by cases y),fun fz L i=>⟨c_,(by rw[aH c_];exact i)⟩⟩
 | true=>
 have f:=D;unfold Aq5 at f;simp only[aX,aW,dG]at f;have t:W.length<=4:=a_
 simp only[Aa,EI];refine Ok.Ao (vR A a_ c2.C (d:=e)) ?_;rintro _ h3 ⟨e3,Y,rfl,c3,n3⟩;have a:=c2.trans c3;simp only[I,Ac];by_cases h0:e3=0
 case neg=>
  simp only[h0,aG,aB,Aa];exact .ret ⟨e3,Y,rfl,a.t0,fun y=>absurd y h0,fun fz L i=>⟨n3 fz L i,by rw[aH h0];exact a.ck.iv fz L i⟩⟩
 simp only[h0,aC,aA,Aa,EJ];rw[a.C.lC];have W3:jE h3 v b W:=p.frame fun y=>a.k.get _ (C.M.lt _ (.inl (fb y))) fun w=>w (fb y)
 rw[W3.Gi];refine Ok.mono (YP A a_ (F:=F) (h:=h) (X:=X) fb t (d:=e) a_ (fun j hj=>C.M.lt _ (.inl hj)) Y.nx (fun w hw=>f.1 w hw) K 0 h3 Y .Am 0 [] a_ a_ rfl (fun y=>absurd y (bX 0)) (fun fz L i=>⟨(a.ck.iv fz L i).sub fun w o s r=>(by obtain⟨k,_,G,_⟩:=r;cases G),fun k hk=>(by cases hk)⟩) a (a.C.less fun j hj=>hj.elim id fun y=>absurd y.1 (bX 0)) (fun y=>absurd y (bX 0)) W3 ⟨Ce.nil _ _ _ _,fun x J=>by cases J⟩) ?_;rintro _ h' ⟨e',Z,rfl,c,i⟩;exact⟨e',Z,rfl,c,fun _=>trivial,i⟩
end
variable {W:List Wr}
section
theorem YS(seq block many:Int):iU (D1 [(0,1),(1,1),(2,1),(3,1),(4,1),(5,1),(6,32)]) [(0,I 2),(1,I seq),(2,I 1),(3,I block),(4,I many)] En.zero.cells=some (⟨2,seq,1,block,many,0,Di⟩:En).cells:=rfl
theorem YT:∀b∈Di,b<256:=fun b hb=>by rw[bY hb];decide
def A1w(g:Gm)(b m:Int):Bool:=(decide (0<=b)&&decide (b<g.B))&&(decide (1<=m)&&decide (m<=g.B-b))
def kn(L:List (List Nat))(b:Nat):Nat->List (List Nat)
 | 0=>L
 | n+1=>(kn L b n).set (b+n) (List.replicate 32 0)
theorem CI.none{L:List (List Nat)}(i:CI fz L T1 X)(hb:b<X.es.length):CI fz (L.set b (List.replicate 32 0)) T1 { X with es:=X.es.set b (Me.nil 0) }:=by
 obtain⟨E,j⟩:=i;refine⟨E,j.a.sub fun w o s r=>?_,fun k y f=>?_,by show(L.set b _).length=(X.es.set b _).length;rw[bM,bM];exact j.len,j.nx,j.one⟩
 ·rcases r with⟨k,y,f,h1,r⟩|r
  ·have f:(X.es.set b (Me.nil 0))[k]? = some y:=f
   rw[cR]at f;by_cases h:b=k
   ·rw[aK h,aK hb]at f
    cases f;cases h1
   ·rw[aH h]at f
    exact .inl ⟨k,y,f,h1,r⟩
  ·exact r.elim
 ·have f:(X.es.set b (Me.nil 0))[k]? = some y:=f
  rw[cR]at f;rw[cR];by_cases h:b=k
  ·rw[aK h,aK hb]at f
   cases f;rw[aK h,aK (by rw[j.len];exact hb)];exact .inl ⟨rfl,rfl⟩
  ·rw[aH h]at f
   rw[aH h];exact j.en k y f
theorem YU{j:Int}(h:0<=j/\j<es.length):(hU es j).2=0/\es[j.toNat]? = some (hU es j).1:=by
 unfold hU;rw[aK h];refine⟨rfl,?_⟩;rw[aE a_];rfl
def sD(X:Co)(j:Int)(bl:List Nat)(e:Int):Prop:=∀fz L,CI fz L T1 X->0<=j/\j<X.es.length->e=0/\L[j.toNat]? = some bl
theorem YV(es:List Me)(j:Int):¬(hU es j).2=34:=by
 unfold hU;split<;>simp
section
variable (A:Cf disp)(hK:10000<K)(C:D6 h B X F)
include A hK
omit A hK in
theorem YW {block many:Int}(b0:0<=block/\block<=1000)(P:0<=many/\many<=1000):∀(f:Nat) (b:Int) (h1:Ab) (Y:Co),block+many-b<f->block<=b->b<=block+many->block+many<=Y.S.g.B->il h h1 B X F Y->(∀fz L,P0 fz L->CI fz (kn L block.toNat (b-block).toNat) T1 Y) ->
 Ok (Nw (Ag TT disp K d false) (Ag TT disp K d true) K f (.ptr B.c 0) (I block) (I many) (I b) h1) fun v h'=>∃Z,v=I 0/\il h h' B X F Z/\∀fz L,P0 fz L->CI fz (kn L block.toNat many.toNat) T1 Z:=by
 intro f;induction f with
 | zero=>intro b h1 Y D;omega
 | succ f G=>
  intro b h1 Y D J M O c1 u;rw[Nw];simp only[I,Ac];rw[Cn (n:=block+many)];by_cases a:b<block+many
  ·simp only[a,aB,Aa,EK]
   rw[c1.C.jC,Ax (l:=(Me.nil 0).cells) rfl];refine Ok.Ao (rH (K:=K) (x:=Me.nil 0) c1.C.sm c1.C.map c1.C.hb (fun y=>by cases y) b) ?_;rintro _ h2 ⟨rfl,m,c,t⟩;have s:=c1.C.sv m c t;have el:=c1.C.map.len;have hb:b.toNat<Y.es.length:=a_
   have e:(jB Y.S.g Y.es b (Me.nil 0)).1=Y.es.set b.toNat (Me.nil 0):=by
    unfold jB;rw[aK ⟨a_,a_⟩,aK (show meR Y.S.g (Me.nil 0)=true by unfold meR;rw[aK (.inl rfl)];exact aR rfl)]
   rw[e]at s;simp only[EL,I,Ac];rw[Cn];refine G (b+1) h2 { Y with es:=Y.es.set b.toNat (Me.nil 0) } a_ a_ a_ O (c1.trans ⟨s.1,s.2,Mk0.refl _⟩) fun fz L p=>?_
   have:=(u fz L p).none hb;rw[show(b+1-block).toNat=(b-block).toNat+1 from a_];unfold kn;rw[show block.toNat+(b-block).toNat=b.toNat from a_];exact this
  ·simp only[a,aA,Aa,EM]
   have:b=block+many:=a_
   subst this;exact .ret ⟨Y,rfl,c1,fun fz L p=>by have:=u fz L p;rwa [show(block+many-block).toNat=many.toNat from a_]at this⟩
include C
theorem YX(hd:28<=d)(block many:Int):Ok (Ag TT disp K d false 45 [.ptr B.c 0,I block,I many] h) fun v h'=>∃(e:Int) (Y:Co),v=I e/\il h h' B X F Y/\(e=0->A1w X.S.g block many=true)/\∀fz L,CI fz L T1 X->¬e=34/\CI fz (if e=0 then kn L block.toNat many.toNat else L) T1 Y:=by
 obtain⟨e,rfl⟩:=fc d;have:=C.sm.b1;rw[YY A a_];simp only[EN,Aa];refine Ok.Ao (DY (K:=K) C block) ?_;rintro _ h2 ⟨rfl,J⟩;have c2:=C.gN J;have no:∀{h3:Ab} {Y:Co} {e:Int},G4 h h3 B X F Y->¬e=0->(∀fz L,CI fz L T1 X->¬e=34)->Ok (some (EV.int .i64 e,h3)) fun v h'=>∃(e:Int) (Y:Co),v=I e/\il h h' B X F Y/\(e=0->A1w X.S.g block many=true)/\∀fz L,CI fz L T1 X->¬e=34/\CI fz (if e=0 then kn L block.toNat many.toNat else L) T1 Y:=fun c ne n=>.ret ⟨_,_,rfl,c.t0,fun y=>absurd y ne,fun fz L i=>⟨n fz L i,by rw[aH ne];exact c.ck.iv fz L i⟩⟩
 have a:∀fz L,CI fz L T1 X->¬(13:Int)=34:=fun _ _ _=>c_
 have O:E4 (.tuple []) false=false/\E4 (.tuple []) true=false:=⟨rfl,rfl⟩;cases P:(decide (0<=block)&&decide (block<X.S.g.B))with
 | false=>
  simp only[Aa,Ac,Rf,Ni];exact no c2 c_ a
 | true=>
 simp only[aX,aW]at P;simp only[Aa,Ac,I];by_cases h1:many<1
 ·simp only[h1,aB,Aa,Ac,Rf,Ni]
  exact no c2 c_ a
 simp only[h1,aA,Aa,Ac,Rf];rw[c2.C.hJ];refine Ok.Ao (O8 (K:=K) c2.C.M c2.hb) ?_;rintro _ h3 ⟨rfl,U⟩;have c3:=c2.trans (c2.C.gN U);unfold gV;rw[vM (v:=I X.S.g.B) rfl];simp only[I,Ac];rw[Cn];by_cases h4:X.S.g.B-block<many
 ·simp only[h4,aB,Aa,Ac,Ni]
  exact no c3 c_ a
 simp only[h4,aA,Aa,Ac,Ni,EO];refine Ok.Ao (vR A hK c3.C (d:=e)) ?_;rintro _ h5 ⟨e5,Y,rfl,f,V⟩;have f:=c3.trans f;simp only[I,Ac];by_cases h0:e5=0
 case neg=>
  simp only[h0,aG,aB,Aa];exact no f h0 V
 simp only[h0,aC,aA,Aa,EP];rw[f.C.lC];have t:=YS Y.nx block many;rw[<-En.Hu]at t;simp only[I]at t⊢;rw[Ax t];refine Ok.Ao (vP A hK (d:=e) a_ (⟨my,YT⟩:(⟨2,Y.nx,1,block,many,0,Di⟩:En).Wf) f.C) ?_;rintro _ h6 ⟨x,er,Z,⟨rfl,rg,p,u,_,_⟩⟩;have G:∀fz L,CI fz L T1 X->CI fz L T1 Z/\¬er=34:=fun fz L i=>by
  have:=u fz L T1 (fun _ _ _ _ y=>y) (f.ck.iv fz L i);exact⟨this.1,this.2.1⟩
 have p:=f.trans p;simp only[Aa];refine Ok.mk rfl rfl fun h7 x7 _ _=>?_
 have D:=p.trans (p.C.gN x7);simp only[I,Ac];by_cases h0:er=0
 case neg=>
  simp only[h0,aG,aB,Aa];exact no D h0 fun fz L i=>(G fz L i).2
 simp only[h0,aC,aA,Aa,ER];refine Ok.mono (YW (K:=K) (d:=e) (P0:=fun fz L=>CI fz L T1 X) ⟨a_,a_⟩ ⟨a_,a_⟩ K block h7 Z a_ a_ a_ (by rw[D.ck.g];omega) D.t0 fun fz L i=>by rw[Int.sub_self];exact(G fz L i).1) ?_;rintro _ h8 ⟨W,rfl,c8,i8⟩;exact⟨0,W,rfl,c8,fun _=>by unfold A1w;simp;omega,fun fz L i=>⟨c_,(by rw[aK rfl];exact i8 fz L i)⟩⟩
theorem ES(hd:28<=d)(j:Int):Hm (Ag TT disp K d false 46 [.ptr B.c 0,I j] h) h B X F:=by
 obtain⟨e,rfl⟩:=fc d;rw[YZ A a_];simp only[ET,Aa];rw[C.jC];refine Ok.Ao (Zu (K:=K) C.sm C.map C.hb j) ?_;rintro _ h2 ⟨rfl,t⟩;have c2:=C.gN t;simp only[Aa];have a:=YV X.es j;generalize hU X.es j=ge at a⊢;obtain⟨x,er⟩:=ge;simp only at a⊢;refine Ok.mk rfl rfl fun h3 u e3 _=>?_
 have c3:=c2.trans (c2.C.gN u);have y:E4 (.tuple []) false=false/\E4 (.tuple []) true=false:=⟨rfl,rfl⟩;simp only[I,Ac];by_cases h0:er=0
 case neg=>
  simp only[h0,aG,aB,Aa,Ac,Rw];exact Hm.ret c3 fun _ _ _=>a
 simp only[h0,aC,aA,Aa,Ac];rw[Al e3 rfl (v:=I x.state) rfl];simp only[I,Ac];by_cases h1:x.state=1
 case neg=>
  simp only[h1,aG,aB,Aa,Ac,Rw];exact Hm.ret c3
 simp only[h1,aC,aA,Aa,Ac,Rw,EU];refine Ok.Ao (vR A hK c3.C (d:=e)) ?_;rintro _ J ⟨e5,Y,rfl,f,p⟩;have p:∀fz L,CI fz L T1 X->¬e5=34:=fun fz L i=>p fz L (c3.ck.iv fz L i)
 have f:=c3.trans f;simp only[I,Ac];by_cases h0:e5=0
 case neg=>
  simp only[h0,aG,aB,Aa];exact Hm.ret f p
 simp only[h0,aC,aA,Aa,EW];exact Hm.then f (C_ A hK f.C (d:=e) a_ j) fun e6 M Z D G=>Hm.ret D G
theorem Y1(hd:15<=d):Hm (Ag TT disp K d false 47 [.ptr B.c 0] h) h B X F:=by
 obtain⟨e,rfl⟩:=fc d;rw[Y2 A a_];simp only[EX,Aa];rw[C.hJ];exact CO A hK C (d:=e) a_ fun e1 h1 f c1 a=>Hm.ret c1 a
theorem EY(hd:29<=d)(j:Int):Ok (Ag TT disp K d false 32 [.ptr B.c 0,I j] h) fun v h'=>∃(bl:List Nat) (e:Int) (Y:Co),v=.tuple [.agg (Be bl),I e]/\bl.length=32/\G4 h h' B X F Y/\sD X j bl e:=by
 obtain⟨dd,rfl⟩:=fc d;rw[Y' A a_];simp only[EZ,Aa];rw[Fx];obtain⟨h1,e_,x1,g4,n1⟩:=nW h (.cells (Be Di) 81);rw[e_];have C1:=C.ext x1;rw[C1.jC];refine Ok.Ao (Zu (K:=K) C1.sm C1.map C1.hb j) ?_;rintro _ h2 ⟨rfl,x2⟩;have rg:=vK C.sm (vi C.map.ok j);simp only[Aa];have a:=YU (es:=X.es) (j:=j);generalize hU X.es j=ge at rg a⊢;obtain⟨x,er⟩:=ge;simp only at rg a⊢;have en:∀fz L,CI fz L T1 X->0<=j/\j<X.es.length->(x.state=0/\L[j.toNat]? = some Di)\/x.state=1:=fun fz L ⟨E,i⟩ y=>(i.en _ x (a y).2).imp (fun z=>⟨by rw[z.1];rfl,z.2⟩) fun z=>z.1.st
 have bf:=x2.hb C1.hb;refine Ok.mk rfl rfl fun h3 x3 e3 _=>?_
 have ag:Ext h h3:=(x1.trans x2).trans x3;have t:=Ext.at (x2.trans x3) C1.hb g4;have bj:=(x2.trans x3).next
 have f:=C.ext ag;have f4:Bi F h h3 h.next:=.inr ⟨aD _,a_⟩
 have bk:E4 (.tuple []) false=false/\E4 (.tuple []) true=false:=⟨rfl,rfl⟩;have fin:∀(bl:List Nat) (e:Int) (h4:Ab) (Y:Co),sD X j bl e->bl.length=32->G4 h3 h4 B X (Bi F h h3) Y->h4.get h.next=some (.cells (Be Di) 81)->Ok (f_ 32 (.ptr h.next 0) (.agg (Be bl)) h4 fun h=>Iq TT [.c (.ptr (h1.next-1) 0) 81,.v (.int .i64 e)] h) fun v h'=>∃(bl:List Nat) (e:Int) (Y:Co),v=.tuple [.agg (Be bl),I e]/\bl.length=32/\G4 h h' B X F Y/\sD X j bl e:=by
  intro bl e h4 Y rd hl c4 ah;have ul:(Be bl).length=32:=by rw[Az,hl]
  have l4:=c4.hb _ _ ah;rw[show h1.next-1=h.next from a_];refine Ok.st (Be bl) ah rfl (by show Fp (Be bl)=32;rw[Bb,ul]) (Bn (by show(Be Di).length=(Be bl).length;rw[ul,Az,my])) ?_;rw[Fi (Ae _ _ _) jk.1 jk.2 ul];exact .ret ⟨bl,e,Y,rfl,hl,G4.vN ag c4 ((As.refl (S:=fun i=>i=h.next) h4).Aq (.inl rfl) l4 _) (fun i hi=>by subst hi;omega) (c4.hb.put l4 _),rd⟩
 rw[show h1.next-1=h.next from a_]at fin;have z:=fun e h4 Y r c g=>fin Di e h4 Y r rfl c g
 have bz:∀k:EV->R,Bt (Mg 1) (Be Di) [] k=k (.agg (Be Di)):=fun k=>Ax rfl
 simp only[I,Ac];by_cases h0:er=0
 case neg=>
  simp only[h0,aG,aB,Aa,Ac,R6];rw[Fx,bz];exact z _ _ X (fun fz L i y=>absurd (a y).1 h0) (G4.refl f) t
 simp only[h0,aC,aA,Aa,Ac];rw[Al e3 rfl (v:=I x.state) rfl];simp only[I,Ac];by_cases U:x.state=0
 ·simp only[U,aB,Aa,Ac,R6]
  rw[Fx,bz];exact z _ _ X (fun fz L i y=>⟨rfl,((en fz L i y).resolve_right fun w=>by omega).2⟩) (G4.refl f) t
 simp only[U,aA,Aa,Ac,R6];rw[Al e3 rfl (v:=I x.state) rfl];simp only[I,Ac];by_cases aj:x.state=2
 ·simp only[aj,aB,Aa,Ac]
  rw[Fx,bz];exact z _ _ X (fun fz L i y=>by rcases en fz L i y with w|w<;>omega) (G4.refl f) t
 simp only[aj,aA,Aa,Ac,E_];have lc:=f.hb _ _ f.core;have l6:=f.hb _ _ e3;rw[Jg lc,f.hJ];simp only[Aa,Au];rw[Jg l6,Cu e3 rfl (Ak (n:=6) rfl)];simp only[Aa,Au];refine Ok.bC (S:=fun j=>¬B.fr (Bi F h h3) j) (Y_ A hK (d:=dd) a_ f.lift.M f.lift.hb rg.1 rg.2) (fun _ _ p=>p.2.2.2.1) ?_;rintro _ bo h4 s' ⟨rfl,bw,M',_,aw⟩ sm ch ax;have c4:=f.Hp (M'.same sm) ch (sm.hb aw) (AJ _ x);have u:∀fz L,CI fz L T1 X->0<=j/\j<X.es.length->(X.S.check x).2.2.2=0/\L[j.toNat]? = some (X.S.check x).2.1:=fun fz L i y=>by
  obtain⟨_,T,bl,n,e,l,_⟩:=i.read (a y).2 ((en fz L i y).resolve_left fun w=>U w.1);rw[e];exact⟨rfl,l⟩
 generalize X.S.check x=P at c4 bw u⊢;obtain⟨S',bl,n,er⟩:=P;simp only at c4 bw u⊢;generalize ({ X with S:=S' }:Co)=Y at c4⊢;have ul:(Be bl).length=32:=by rw[Az,bw]
 simp only[Aa];rw[J1 (by rcases ax with rfl|⟨w,rfl,_⟩<;>kernel_rfl)];refine Ok.st (Be bl) (Ad _ _) rfl (by show Fp (Be bl)=32;rw[Bb,ul]) (Bn (by rw[bO];exact ul.symm)) ?_;obtain⟨h5,e_,x5,g8,n5⟩:=nP h4 (.cells (List.replicate 32 (EV.int .u8 0)) 81) (.cells (Be bl) 81);rw[e_];have V:=c4.trans (c4.C.gN x5);have aa:=V.k.at f.hb t f4;simp only[I,Ac];by_cases h0:er=0
 case neg=>
  simp only[h0,aG,aB,Aa];rw[Fx,bz];exact z _ _ _ (fun fz L i y=>absurd (u fz L i y).1 h0) V aa
 simp only[h0,aC,aA,Aa,FA,Ac];have G:∀J Z,G4 h3 J B X (Bi F h h3) Z->J.get h.next=some (.cells (Be Di) 81)->J.get h4.next=some (.cells (Be bl) 81)->Ok (Ye (Ag TT disp K dd false) (Ag TT disp K dd true) K (.ptr h.next 0) (.ptr h4.next 0) J) fun v h'=>∃(bl:List Nat) (e:Int) (Y:Co),v=.tuple [.agg (Be bl),I e]/\bl.length=32/\G4 h h' B X F Y/\sD X j bl e:=fun J Z O D ad=>by
  simp only[Ye,dr];rw[Cu ad rfl (Ak ul)];exact fin bl 0 J Z (fun fz L i y=>⟨rfl,(u fz L i y).2⟩) bw O D
 by_cases hn:n<2
 case neg=>
  simp only[hn,aA,Aa,Ac,Xu];exact G h5 _ V aa g8
 simp only[hn,aB,Aa,Ac];have C5:D6 h5 B Y (fun i=>Bi F h h3 i\/i=h4.next):=(c4.C.ext x5).less fun i hi=>by
  rcases hi with hi|rfl
  ·exact .inl hi
  ·exact .inr ⟨aD _,a_⟩
 refine Ok.Ao (ES A hK C5 (d:=dd) a_ j) ?_;rintro _ J ⟨e6,Z,rfl,O,n6⟩;have n6:∀fz L,CI fz L T1 X->¬e6=34:=fun fz L i=>n6 fz L (V.ck.iv fz L i)
 have D:=O.k.at V.hb aa (.inl f4);have ad:=O.k.at V.hb g8 (.inr rfl);have O:=V.trans (O.less fun i=>.inl);simp only[I,Ac,Xu];by_cases ae:e6=34
 ·simp only[ae,aB,Aa]
  rw[Fx,bz];exact z _ _ _ (fun fz L i _=>absurd ae (n6 fz L i)) O D
 ·simp only[ae,aA,Aa]
  exact G J _ O D ad
end
end
theorem ZC(hK:1000<K)(hb:HB h)(m:Nat):Ok (qe K (.ptr m 0) h) fun v h'=>v=.ptr h.next 0/\h'.get h.next=some (.cells (arC m (fun _=>-1) fun _=>-1) 126)/\Ext h h'/\HB h':=by
 obtain⟨t,rfl⟩:∃k,K=k+4:=⟨K-4,a_⟩;simp only[qe,dr];rw[Ax (l:=arC m (fun _=>0) fun _=>0) rfl];simp only[Aa];have u:Ext h (h.new (.cells (arC m (fun _=>0) fun _=>0) 126)):=As.new _ _;have y:(h.new (.cells (arC m (fun _=>0) fun _=>0) 126)).get h.next=some (.cells (arC m (fun _=>0) fun _=>0) 126):=Ad _ _
 have l1:h.next<(h.new (.cells (arC m (fun _=>0) fun _=>0) 126)).next:=aT _
 generalize h.new (.cells (arC m (fun _=>0) fun _=>0) 126)=h1 at u y l1⊢;have st:∀(i:Nat) (h2:Ab) (c o:Nat->Int) (n:Nat),i<3->h2.get h.next=some (.cells (arC m c o) 126)->Ext h h2->h.next<h2.next->(∀h3,h3.get h.next=some (.cells (arC m (Jq c i (-1)) (Jq o i (-1))) 126)->Ext h h3->h.next<h3.next->Ok (Sq (t+4) n (.ptr h.next 0) (I (i+1:Nat)) h3) fun v h'=>v=.ptr h.next 0/\h'.get h.next=some (.cells (arC m (fun _=>-1) fun _=>-1) 126)/\Ext h h'/\HB h')->Ok (Sq (t+4) (n+1) (.ptr h.next 0) (I i) h2) fun v h'=>v=.ptr h.next 0/\h'.get h.next=some (.cells (arC m (fun _=>-1) fun _=>-1) 126)/\Ext h h'/\HB h':=by
  intro i h2 c o n hi f p a hk;rw[Sq];simp only[I,Ac];have:decide ((i:Int)<3)=true:=by simp;omega
  simp only[this,Aa,FC];rw[Ax (l:=[I (-1),I (-1)]) rfl]
  try simp only[Aa]
  rw[kB hi];refine Ok.st _ f rfl rfl (vp hi (-1) (-1)) ?_;simp only[FD,Ac];rw[Cn,show((i:Nat):Int)+1=((i+1:Nat):Int) from a_];exact hk _ (Ae _ _ _) (p.Aq (.inr (aD _)) a _) a
 refine st 0 h1 _ _ _ a_ y u l1 fun h2 f p a=>st 1 h2 _ _ _ a_ f p a fun h3 G J M=>st 2 h3 _ _ _ a_ G J M fun h4 O D P=>?_
 rw[Sq];simp only[I,Ac];simp only[show decide (((2+1:Nat):Int)<3)=false from rfl,Aa,FE];exact .ret ⟨rfl,O,D,D.hb hb⟩
theorem vT(z:List EV):∀n,rep z n=(List.replicate n z).flatten
 | 0=>rfl
 | n+1=>by rw[eF,b9,<-vT z n];rfl
theorem ZD(n:Nat):((List.replicate n (Me.nil 0)).map Me.cells).flatten=rep (List.replicate 6 (.int .i64 0)) n:=by
 rw[vT,eh];rfl
theorem FF(z:Int):∀n,Uq (List.replicate n (Me.nil 0)) z=0
 | 0=>rfl
 | n+1=>by
  rw[eF,U6,FF z n];unfold ic;rw[aH (fun y=>by cases y.1)];rfl
theorem ZE(n m:Nat):((List.range n).map fun(z:Nat)=>I (Uq (List.replicate m (Me.nil 0)) z))=rep [.int .i64 0] n:=by
 rw[vU];have:(fun(z:Nat)=>I (Uq (List.replicate m (Me.nil 0)) z))=fun _=>EV.int .i64 0:=by funext z;rw[FF]
 rw[this,FG]
theorem ZF {g:Gm}(hr:rtB g=true)(hb:HB h):Ok (qi K (gV g) h) fun v h'=>∃b ml ll,v=.tuple [.ptr b 0,I 0]/\Qs h' b ml ll g (List.replicate g.B.toNat (Me.nil 0))/\Ext h h'/\HB h'/\h.next<=b/\h.next<=ml/\h.next<=ll:=by
 have s:=Qu hr;have:=s.b0;have:=s.b1;have:=s.d0;have:=s.d1;have:=s.z0;have:=s.z1;obtain⟨m0,m1⟩:=Nz (a:=g.D) (b:=g.Z) (A:=8) (B:=64);simp only[qi,gV,Aa];obtain⟨h1,e_,J,g1,n1⟩:=nW h (.cells (gL g) 23);rw[e_];have M:=J.hb hb;rw[Cz g1 rfl,Ak (n:=6) rfl]
 try simp only[Aa]
 rw[show EV.agg (gL g)=gV g from rfl];refine(Z9 (K:=K) g h1).Ao ?_;rintro _ h2 ⟨rfl,y⟩;have f:=y.hb M;have g2:=y.at M g1;have l2:=f _ _ g2;simp only[hr,Aa,FH];rw[Jg l2,Cz g2 rfl,Ak (n:=6) rfl];simp only[Aa,Au];rw[Jg l2,Al g2 rfl (v:=I g.B) rfl];simp only[Aa,Au];have hB:I g.B=I (g.B.toNat:Int):=by rw[fP a_]
 rw[hB,vd a_,Ar];have G:Ext h2 (h2.new (.cells (rep (List.replicate 6 (.int .i64 0)) g.B.toNat) 87)):=As.new _ _;have g3:(h2.new (.cells (rep (List.replicate 6 (.int .i64 0)) g.B.toNat) 87)).get h2.next=some (.cells (rep (List.replicate 6 (.int .i64 0)) g.B.toNat) 87):=Ad _ _
 have n3:(h2.new (.cells (rep (List.replicate 6 (.int .i64 0)) g.B.toNat) 87)).next=h2.next+1:=rfl
 have e3:([EV.int .i64 0,.int .i64 0,.int .i64 0,.int .i64 0,.int .i64 0,.int .i64 0]:List EV)=List.replicate 6 (.int .i64 0):=rfl;rw[e3];generalize h2.new (.cells (rep (List.replicate 6 (.int .i64 0)) g.B.toNat) 87)=h3 at G g3 n3⊢;have t:=G.hb f;have O:=G.at f g2;have l3:=t _ _ O;rw[Jg (show h.next<h2.next from l2),Cz O rfl,Ak (n:=6) rfl];simp only[Aa,Au];rw[show EV.agg (gL g)=gV g from rfl];refine Ok.SS (P:=fun v h'=>v=I (g.D*g.Z)/\Ext (Ks 16 ⟨0,[(Nat.shiftLeft 1 3,h2.next)],[(Nat.shiftLeft 1 4,h.next),(Nat.shiftLeft 1 2,h.next),(Nat.shiftLeft 1 0,h.next)],[],[]⟩ h3) h') (by kernel_rfl) ?_ (fun _ _ p=>p.2) ?_
 ·rw[No s]
  exact .ret ⟨rfl,As.new _ _⟩
 ·rintro _ au h4 ⟨rfl,aw⟩ eg en U
  have V:=U.hb t;have ah:=U.at t g3;have hN:I (g.D*g.Z)=I ((g.D*g.Z).toNat:Int):=by rw[fP a_]
  try simp only[Aa,Au]
  rw[hN,vd a_,Ar];obtain⟨h5,e_,x5,g5,n5⟩:=nW h4 (.cells (rep [.int .i64 0] (g.D*g.Z).toNat) 3);rw[e_];have u:=x5.hb V;rw[Ax (l:=gL g++[.slice h2.next 0 g.B.toNat g.B.toNat false,.slice h4.next 0 (g.D*g.Z).toNat (g.D*g.Z).toNat false]) rfl];simp only[Aa,Au];have x6:Ext h5 (h5.new (.cells (gL g++[.slice h2.next 0 g.B.toNat g.B.toNat false,.slice h4.next 0 (g.D*g.Z).toNat (g.D*g.Z).toNat false]) 147)):=As.new _ _;refine .ret ⟨h5.next,h2.next,h4.next,rfl,⟨Ad _ _,by rw[ZD];exact x6.at u (x5.at V ah),by rw[ZE];exact x6.at u g5,by rw[bO],fun x hx=>by rw[bY hx];unfold meR;rw[aK (.inl rfl)];exact aR rfl⟩,((((J.trans y).trans G).trans U).trans x5).trans x6,x6.hb u,?_,?_,?_⟩
  ·have:=J.next;have:=y.next;have:=G.next;have:=U.next;have:=x5.next;omega
  ·have:=J.next;have:=y.next;omega
  ·have:=J.next;have:=y.next;have:=G.next;have:=U.next;omega
noncomputable def Mi.lQ(cur By:Nat->Int)(S:Mi)(z:Int):Mi:=if iZ cur By z=true then S else S.jr z
noncomputable def Mi.Vl(cur By:Nat->Int)(S:Mi):Nat->Mi
 | 0=>S
 | n+1=>(Mi.Vl cur By S n).lQ cur By n
theorem ZG(cur By:Nat->Int)(S:Mi)(z:Int):(S.lQ cur By z).bad=S.bad/\(S.lQ cur By z).g=S.g/\(S.lQ cur By z).dr=S.dr:=by
 unfold Mi.lQ;split<;>exact⟨rfl,rfl,rfl⟩
theorem We(cur By:Nat->Int)(S:Mi):∀n,(S.Vl cur By n).bad=S.bad/\(S.Vl cur By n).g=S.g/\(S.Vl cur By n).dr=S.dr
 | 0=>⟨rfl,rfl,rfl⟩
 | n+1=>by
  obtain⟨a,b,c⟩:=ZG cur By (S.Vl cur By n) n;obtain⟨d,e,f⟩:=We cur By S n;exact⟨a.trans d,b.trans e,c.trans f⟩
def Er(g:Gm):Nat->Int:=Jq (Jq (Jq (fun _=>-1) 0 0) 1 g.Z) 2 (2*g.Z)
def Ej(g:Gm):Nat->Int:=Jq (Jq (Jq (fun _=>-1) 0 1) 1 (g.Z+1)) 2 (2*g.Z+1)
noncomputable def Co.start(g:Gm):Co:=⟨(Mi.new g).Vl (Er g) (Ej g) (g.D*g.Z).toNat,Er g,Ej g,List.replicate g.B.toNat (Me.nil 0),0,1,1,false⟩
theorem FI {g:Gm}(a:rtB g=true):g.P+3<=g.Z:=by
 have s:=Qu a;have h:2*g.B<=g.S*g.segments:=by
  unfold rtB at a;simp only[aX,aW]at a;exact a.2.2
 have:=s.b0;have:=s.s0;have:=s.d0;have:=s.p0;have h1:1<=g.segments:=by
  rcases Int.lt_or_le 0 g.segments with y|y
  ·omega
  ·have:g.S*g.segments<=g.S*0:=dZ y a_
   omega
 by_cases f:g.P+3<=g.Z
 ·exact f
 ·exfalso
  unfold Gm.segments at h1;have u0:(g.D-1)*(g.Z-g.P-2)<=0:=Int.mul_nonpos_of_nonneg_of_nonpos a_ a_;have p:0<=g.D*g.P:=Int.mul_nonneg a_ a_;have h2:g.least<=(g.D-1)*(g.Z-g.P-2)-g.nr+1:=Int.min_le_left _ _;unfold Gm.nr at h2;omega
theorem mz {g:Gm}(s:Sm g){k:Int}(hi:(i:Int)<g.D:=by omega)(a:0<=k:=by omega)(f:k<g.Z:=by omega):Cl g (i*g.Z+k)=i:=by
 have:=s.z0;have h1:(0:Int)<=i*g.Z:=Int.mul_nonneg a_ a_;have h2:(i:Int)*g.Z+g.Z<=g.D*g.Z:=by
  have:((i:Int)+1)*g.Z<=g.D*g.Z:=Int.mul_le_mul_of_nonneg_right a_ a_;rw[Int.add_mul,Int.one_mul]at this;exact this
 unfold Cl;rw[aH a_,Int.add_comm,Int.add_mul_ediv_right _ _ a_,Int.ediv_eq_zero_of_lt a f,Int.zero_add]
theorem ZH(A:Cf disp)(hK:10000<K)(hd:8<=d)(hn:n<=600){ar:Nat}{By:Nat->Int}(fa:F ar){S0:Mi}(b0:∀z,S0.bad z=0):∀(f i:Nat) (h:Ab),n-i<f->i<=n->C0 h m (S0.Vl cur By i) F->HB h->h.get ar=some (.cells (arC m cur By) 126)->Kf F h0 h ->
 (∀h',C0 h' m (S0.Vl cur By n) F->Kf F h0 h'->HB h'->Ok (Gb (Ag TT disp K d false) (Ag TT disp K d true) K (.ptr m 0) (.ptr b 0) (.ptr ar 0) h') Q) ->
 Ok (D3 (Ag TT disp K d false) (Ag TT disp K d true) K f (.ptr m 0) (.ptr b 0) (.ptr ar 0) (I n) (I i) h) Q:=by
 intro f;induction f with
 | zero=>intro i h hf;omega
 | succ f ih=>
  intro i h hf hi M hb O k hk;rw[D3];simp only[I,Ac];by_cases af:i<n
  ·have:decide ((i:Int)<(n:Int))=true:=by simp;omega
   simp only[this,Aa,Tz];have P:=BI (K:=K) A (d:=d) a_ a_ O hb (i:Int);simp only[I]at P;refine P.Ao ?_;rintro _ h2 ⟨rfl,D,a⟩;have M2:=(M.ext hb D).less fun j (hj:F j)=>Or.inl hj
   have u:=D.at hb O;have U:=k.trans (Ext.kf D);have nx:∀h3,C0 h3 m (S0.Vl cur By (i+1)) F->HB h3->h3.get ar=some (.cells (arC m cur By) 126)->Kf F h0 h3->Ok (Mj (Ag TT disp K d false) (Ag TT disp K d true) K (D3 (Ag TT disp K d false) (Ag TT disp K d true) K f) (.ptr m 0) (.ptr b 0) (.ptr ar 0) (.int .i64 (n:Int)) (.int .i64 (i:Int)) h3) Q:=fun h3 G t J y=>by
    simp only[Mj,Ac];rw[Cn,show((i:Nat):Int)+1=((i+1:Nat):Int) from a_];exact ih (i+1) h3 a_ a_ G t J y hk
   have e1:S0.Vl cur By (i+1)=if iZ cur By i=true then S0.Vl cur By i else(S0.Vl cur By i).jr i:=rfl
   cases V:iZ cur By i with
   | true=>
    simp only[Aa];exact nx h2 (by rw[e1,aK V];exact M2) a u U
   | false=>
    simp only[Aa];obtain⟨p,e2,e3⟩:=CN M2 a A hK;rw[e2,Ar];refine Ok.Ao (e3 hd (z:=(i:Int)) ⟨a_,a_⟩ fun _=>by rw[(We cur By S0 i).1,b0];decide) ?_;rintro _ h3 ⟨rfl,G,y,t⟩;exact nx h3 (by rw[e1,aH (by rw[V];decide)];exact G) t (y.at a u fa) (U.trans y)
  ·have:decide ((i:Int)<(n:Int))=false:=by simp;omega
   simp only[this,Aa];have:i=n:=a_
   subst this;exact hk h M k hb
theorem ZI {a:Nat}{x y z:Int}(h:Ab):qj K (.ptr m 0) (.ptr a 0) (.ptr b 0) (.agg [I x,I y,I z]) h=some (.ptr (h.next+1) 0,(h.new (.cells [I x,I y,I z] 45)).new (.cells [.ptr m 0,.ptr a 0,.ptr b 0,I x,I y,I z,.bool false] 111)):=by
 simp only[qj,Aa];rw[Cz (Ad _ _) rfl,Ak (n:=3) rfl]
 try simp only[Aa]
 rw[Ax (l:=[.ptr m 0,.ptr a 0,.ptr b 0,I x,I y,I z,.bool false]) rfl]
 try simp only[Aa]
 rfl
theorem ZJ(A:Cf disp)(hK:10000<K)(hd:8<=d){g:Gm}(hr:rtB g=true)(hb:HB h){v1 ll L:Nat}(g1:h.get v1=some (.cells (gL g) 23))(mp:Qs h b ml ll g (List.replicate g.B.toNat (Me.nil 0)))(lb:L<=b/\L<=ml/\L<=ll)(M:C0 h m (Mi.new g) (fun i=>i<L\/i=b\/i=ml\/i=ll))(lv:v1<L)
 (hk:∀h' ar,L<=ar->C0 h' m (Co.start g).S (fun i=>i<L\/i=b\/i=ml\/i=ll\/i=ar)->h'.get ar=some (.cells (arC m (Er g) (Ej g)) 126)->Qs h' b ml ll g (List.replicate g.B.toNat (Me.nil 0))->Kf (fun i=>i<L) h h'->HB h'->Ok (Gb (Ag TT disp K d false) (Ag TT disp K d true) K (.ptr m 0) (.ptr b 0) (.ptr ar 0) h') Q) :
 Ok (Ll (Ag TT disp K d false) (Ag TT disp K d true) K (.ptr v1 0) (.ptr m 0) (.ptr b 0) h) Q:=by
 have s:=Qu hr;have zz:=FI hr;have:=s.d0;have:=s.d1;have:=s.z0;have:=s.z1;have:=s.p0;obtain⟨m0,m1⟩:=Nz (a:=g.D) (b:=g.Z) (A:=8) (B:=64);simp only[Ll,dr];refine(ZC (K:=K) a_ hb m).Ao ?_;rintro _ h2 ⟨rfl,ga,x2,f⟩;have la:=f _ _ ga;have lm:h.next<=h.next:=aD _
 have l1:=hb _ _ g1;have l3:=hb _ _ mp.map;have l4:=hb _ _ mp.row;have l5:=hb _ _ mp.live;have M2:C0 h2 m (Mi.new g) (fun i=>i<L\/i=b\/i=ml\/i=ll\/i=h.next):=(M.ext hb x2).less fun i hi=>by
  rcases hi with hi|hi|hi|hi|hi
  ·exact .inl (.inl hi)
  ·exact .inl (.inr (.inl hi))
  ·exact .inl (.inr (.inr (.inl hi)))
  ·exact .inl (.inr (.inr (.inr hi)))
  ·exact .inr ⟨a_,a_⟩
 have hL:L<=h.next:=a_
 have U:=x2.at hb g1;generalize h.next=ar at *
 have fa:(fun i=>i<L\/i=b\/i=ml\/i=ll\/i=ar) ar:=.inr (.inr (.inr (.inr rfl)));have st:∀(i:Nat) (h3:Ab) (c o:Nat->Int) (n:Nat),i<3->C0 h3 m (Mi.new g) (fun i=>i<L\/i=b\/i=ml\/i=ll\/i=ar)->HB h3->h3.get ar=some (.cells (arC m c o) 126)->As (fun j=>j=ar) h2 h3 ->
  (∀h4,C0 h4 m (Mi.new g) (fun i=>i<L\/i=b\/i=ml\/i=ll\/i=ar)->HB h4->h4.get ar=some (.cells (arC m (Jq c i (i*g.Z)) (Jq o i (i*g.Z+1))) 126)->As (fun j=>j=ar) h2 h4->Ok (Dh (Ag TT disp K d false) (Ag TT disp K d true) K n (.ptr v1 0) (.ptr m 0) (.ptr b 0) (.ptr ar 0) (I (i+1:Nat)) h4) Q) ->
  Ok (Dh (Ag TT disp K d false) (Ag TT disp K d true) K (n+1) (.ptr v1 0) (.ptr m 0) (.ptr b 0) (.ptr ar 0) (I i) h3) Q:=by
  intro i h3 c o n hi M3 t u c3 hk;rw[Dh];simp only[I,Ac];have:decide ((i:Int)<3)=true:=by simp;omega
  simp only[this,Aa,T3];have af:=c3.at f U (by show ¬v1=ar;omega);have ld:∀k:EV->R,Ec (.ptr v1 1) h3 k=k (I g.Z):=fun k=>Al af rfl rfl
  obtain⟨a0,a1⟩:=Nz (a:=(i:Int)) (b:=g.Z) (A:=3) (B:=64);simp only[ld,I,Ac];rw[Cn,Cn];have d1:=mz s (i:=i) (k:=0);have d2:=mz s (i:=i) (k:=1);rw[Int.add_zero]at d1;have so:=VR (K:=K) M3 t u fa hi (v:=i*g.Z) (w:=i*g.Z+1) (.inr d1) (.inr d2) a_;simp only[I]at so;refine so.Ao ?_;rintro _ h4 ⟨rfl,M4,G,c4,J⟩;simp only[T2,Ac];rw[Cn,show((i:Nat):Int)+1=((i+1:Nat):Int) from a_];exact hk h4 M4 J G (c3.trans c4)
 obtain⟨K',rfl⟩:∃k,K=k+4:=⟨K-4,a_⟩;refine st 0 h2 _ _ _ a_ M2 f ga (As.refl _) fun h3 M3 t u c3=>st 1 h3 _ _ _ a_ M3 t u c3 fun h4 M4 J G c4=>st 2 h4 _ _ _ a_ M4 J G c4 fun h5 M5 p O c5=>?_
 rw[Dh];simp only[I,Ac];simp only[show decide (((2+1:Nat):Int)<3)=false from rfl,Aa,Ml];have ah:=c5.at f U (by show ¬v1=ar;omega);rw[Cz ah rfl,Ak (n:=6) rfl]
 try simp only[Aa]
 rw[show EV.agg (gL g)=gV g from rfl,No s,Ar];obtain⟨n,hn⟩:=bD (show 0<=g.D*g.Z from a_);rw[hn];obtain⟨h6,e_,V,_,_⟩:=nW h5 (.cells (gL g) 23);rw[e_];have P:=V.hb p;have cc:Jq (Jq (Jq (fun _=>-1) 0 ((0:Nat)*g.Z)) 1 ((1:Nat)*g.Z)) 2 ((2:Nat)*g.Z)=Er g:=by
  unfold Er;rw[show(((0:Nat):Int))*g.Z=0 from Int.zero_mul _,show(((1:Nat):Int))*g.Z=g.Z from Int.one_mul _];rfl
 have co:Jq (Jq (Jq (fun _=>-1) 0 ((0:Nat)*g.Z+1)) 1 ((1:Nat)*g.Z+1)) 2 ((2:Nat)*g.Z+1)=Ej g:=by
  unfold Ej;rw[show(((0:Nat):Int))*g.Z=0 from Int.zero_mul _,show(((1:Nat):Int))*g.Z=g.Z from Int.one_mul _];rfl
 rw[cc,co]at O;have M6:=(M5.ext p V).less (F':=fun i=>i<L\/i=b\/i=ml\/i=ll\/i=ar) fun j hj=>Or.inl hj
 refine ZH (S0:=Mi.new g) (cur:=Er g) (By:=Ej g) (h0:=h6) A hK hd (n:=n) a_ fa (fun _=>rfl) (K'+4) 0 h6 a_ a_ M6 P (V.at p O) (As.refl _) fun h7 M7 k7 ao=>?_
 have ca:As (fun j=>j=ar) h2 h6:=c5.trans (Ext.to V);have kp:∀i o,i<ar->(i<L\/i=b\/i=ml\/i=ll)->h.get i=some o->h7.get i=some o:=fun i o hi hf e=>k7.at P (ca.at f (x2.at hb e) (by show ¬i=ar;omega)) (by
  rcases hf with y|y|y|y
  ·exact .inl y
  ·exact .inr (.inl y)
  ·exact .inr (.inr (.inl y))
  ·exact .inr (.inr (.inr (.inl y))))
 refine hk h7 ar hL ?_ (k7.at P (V.at p O) fa) ⟨kp _ _ l3 (.inr (.inl rfl)) mp.map,kp _ _ l4 (.inr (.inr (.inl rfl))) mp.row,kp _ _ l5 (.inr (.inr (.inr rfl))) mp.live,mp.len,mp.ok⟩ ?_ ao
 ·show C0 h7 m ((Mi.new g).Vl (Er g) (Ej g) (g.D*g.Z).toNat) _
  rw[hn];exact M7
 ·refine(Ext.kf x2).trans ((ca.mono fun i hi y=>?_).trans (k7.less fun i hi=>.inl hi))
  have y:i<L:=y;have hi:i=ar:=hi;omega
theorem Co.ZK {g:Gm}(a:rtB g=true):(Co.start g).Wf:=by
 have s:=Qu a;have t:=FI a;have:=s.d0;have:=s.p0;have:=s.z0;have:=s.s0;obtain⟨_,e2,e3⟩:=We (Er g) (Ej g) (Mi.new g) (g.D*g.Z).toNat;have f:(Co.start g).S.g=g:=e2;have d0:=mz s (i:=0) (k:=0);have d1:=mz s (i:=1) (k:=0);have d2:=mz s (i:=2) (k:=0);have o0:=mz s (i:=0) (k:=1);have o1:=mz s (i:=1) (k:=1);have p:=mz s (i:=2) (k:=1);refine⟨by rw[f];exact a,⟨fun i hi=>.inr ?_,fun i hi=>.inr ?_⟩,?_⟩
 ·rw[f]
  rcases(show i=0\/i=1\/i=2 from a_)with rfl|rfl|rfl
  ·rw[<-d0];congr 1;show(0:Int)=_;omega
  ·rw[<-d1];congr 1;show g.Z=_;omega
  ·rw[<-d2];congr 1;show 2*g.Z=_;omega
 ·rw[f]
  rcases(show i=0\/i=1\/i=2 from a_)with rfl|rfl|rfl
  ·rw[<-o0];congr 1;show(1:Int)=_;omega
  ·rw[<-o1];congr 1;show g.Z+1=_;omega
  ·rw[<-p];congr 1
 ·show 0<(Co.start g).S.dr.dv.size
  rw[show(Co.start g).S.dr=(Mi.new g).dr from e3];show 0<g.S.toNat;omega
theorem ZL(A:Cf disp)(hK:10000<K)(hd:9<=d)(g:Gm)(hb:HB h):Ok (Ag TT disp K d false 6 [gV g] h) fun v h'=>Kf (fun i=>i<h.next) h h'/\HB h' /\
 if rtB g=true/\g.D*g.Z<=64 then ∃B,v=.ptr B.c 0/\D6 h' B (Co.start g) (fun i=>i<h.next)/\h.next<=B.c else v=.F7:=by
 obtain⟨e,rfl⟩:=fc d;rw[ZM A a_];simp only[Yi,gV,Aa];obtain⟨h1,e_,x1,g1,n1⟩:=nW h (.cells (gL g) 23);rw[e_];have al:=x1.hb hb;rw[Cz g1 rfl,Ak (n:=6) rfl]
 try simp only[Aa]
 rw[show EV.agg (gL g)=gV g from rfl];refine(ZN g a_ h1).Ao ?_;rintro _ h3 ⟨rfl,x3⟩;have t:=x3.hb al;have ae:Ext h h3:=x1.trans x3;have b5:E4 (.tuple []) false=false/\E4 (.tuple []) true=false:=⟨rfl,rfl⟩;cases hr:rtB g with
 | false=>
  simp only[Aa,Ac,H5];exact .ret ⟨Ext.kf ae,t,by rw[aH (fun y=>by cases y.1)]⟩
 | true=>
 have s:=Qu hr;have:=s.d0;have:=s.d1;have:=s.z0;have:=s.z1;have:=s.s0;have:=s.s1;have:=s.o0;have:=s.o1;obtain⟨m0,m1⟩:=Nz (a:=g.D) (b:=g.Z) (A:=8) (B:=64);have m2:3<=g.D*g.Z:=by
  have:3*1<=g.D*g.Z:=Int.mul_le_mul a_ a_ a_ a_;omega
 have J:=x3.at al g1;simp only[Aa,Ac,Cx J rfl,gL,I];rw[Cn];by_cases aq:64<g.D*g.Z
 ·simp only[aq,aB,Aa,Ac,H5]
  exact .ret ⟨Ext.kf ae,t,by rw[aH (fun y=>by omega)]⟩
 simp only[aq,aA,Aa,Ac,H5,Sr,Au];have l3:=t _ _ J;rw[Jg l3,Cz J rfl,Ak (n:=6) rfl]
 try simp only[Aa,Au]
 rw[show EV.agg (gL g)=gV g from rfl];refine Ok.bE (P:=fun v h'=>v=I (g.D*g.Z)/\Ext h3.lift h') ⟨_,_,No s _,rfl,As.new _ _⟩ (fun _ _ p=>p.2) ?_;rintro _ _ h4 ⟨rfl,_⟩ _ x4;have af:=x4.hb t;have ag:=x4.at t J;rw[Jg l3,Al ag rfl (v:=I g.S) rfl]
 try simp only[Aa,Au]
 rw[Jg l3,Al ag rfl (v:=I g.O) rfl]
 try simp only[Aa,Au]
 have a7:qk (g.D*g.Z) g.S g.O=true:=by
  unfold qk;rw[Gd.2 ⟨a_,a_⟩,Gd.2 ⟨a_,a_⟩,Gd.2 ⟨a_,a_⟩];rfl
 refine Ok.bE (ZO (K:=K) a7 a_ (Dj af)) (fun _ _ p=>by obtain⟨_,_,_,_,_,_,x,_⟩:=p;exact x) ?_;rintro _ b6 h5 ⟨D,V,M,ba,z,rfl,_,_,dr,nd⟩ sm x5;have u:=x5.hb af;have dr:=dr.ext (h':=h5) fun i o g=>by rw[sm.get];exact g
 have ah:=x5.at af ag;have b7:h4.lift.next=h4.next:=rfl
 simp only[Aa,I,Ac,aC,aA,So,Au];have l5:=u _ _ ah;rw[Jg l5,Cz ah rfl,Ak (n:=6) rfl]
 try simp only[Aa,Au]
 rw[FJ (v:=Tu) (by kernel_rfl) (by kernel_rfl) rfl];have bb:mA h5.lift D V M ba (g.D*g.Z).toNat z (fun _=>0) g.S g.O 0 false .Am .Am [] (fun _=>Zn.empty):=dr.ext fun i o g=>by rw[Bx];exact g
 rw[show EV.agg (gL g)=gV g from rfl];refine Ok.bE (ZP (K:=K) (g:=g) a_ (Dj u) bb) (fun _ _ p=>p.1) ?_;rintro v bf h6 ⟨_,_,hv⟩ bj x6;have U:=x6.hb u;rw[aK ⟨hr,a_,rfl⟩]at hv;obtain⟨m,p,bl,ql,q,c,rfl,MA,PA,nm⟩:=hv;have k6:∀i o,bf.get i=some o->h6.get i=some o:=fun i o g=>by rw[bj.get];exact g
 have t1:=x1.next;have t3:=x3.next;have t4:=x4.next;have t5:=x5.next;have t6:=x6.next
 have ch:h5.lift.next=h5.next:=rfl
 have M6:=ZQ s (h0:=h4) U (dr.ext fun i o g=>x6.at u g) ⟨⟨a_,a_⟩,a_,a_,nd.2.2.2⟩ (MA.ext k6) (PA.ext k6) ⟨⟨a_,a_⟩,a_,a_,fun d hd=>by have:=nm.2.2.2 d hd;omega⟩ a_;have aw:=x6.at u ah;simp only[Aa,I,Ac];rw[Cz aw rfl,Ak (n:=6) rfl]
 try simp only[Aa]
 rw[show EV.agg (gL g)=gV g from rfl];refine(ZF (K:=K) hr U).Ao ?_;rintro _ h7 ⟨b,ml,ll,rfl,mp,x7,aa,lb,cp,ct⟩;simp only[Aa,I,Ac,aC,aA,Sk];have cw:=aa _ _ mp.map;have cx:=aa _ _ mp.row;have cG:=aa _ _ mp.live;have M7:C0 h7 m (Mi.new g) (fun i=>i<h4.next\/i=b\/i=ml\/i=ll):=(M6.ext U x7).less fun i hi=>by
  rcases hi with hi|hi|hi|hi
  ·exact .inl hi
  ·exact .inr ⟨a_,a_⟩
  ·exact .inr ⟨a_,a_⟩
  ·exact .inr ⟨a_,a_⟩
 have bn:Ext h h7:=(((ae.trans x4).trans x5).trans x6).trans x7;refine ZJ (K:=K) A hK (d:=e) a_ hr aa (v1:=h.next) (L:=h4.next) (x7.at U aw) mp ⟨a_,a_,a_⟩ M7 a_ fun G ar c5 M8 ax ad k8 f=>?_
 simp only[Gb,dr];rw[Ax (l:=[I 0,I 1,I 1]) rfl]
 try simp only[Aa]
 rw[ZI,Ar];have x9:Ext G ((G.new (.cells [I 0,I 1,I 1] 45)).new (.cells [.ptr m 0,.ptr ar 0,.ptr b 0,I 0,I 1,I 1,.bool false] 111)):=(As.new _ _).Dn _;have g9:((G.new (.cells [I 0,I 1,I 1] 45)).new (.cells [.ptr m 0,.ptr ar 0,.ptr b 0,I 0,I 1,I 1,.bool false] 111)).get (G.next+1)=some (.cells [.ptr m 0,.ptr ar 0,.ptr b 0,I 0,I 1,I 1,.bool false] 111):=Ad _ _;generalize (G.new (.cells [I 0,I 1,I 1] 45)).new (.cells [.ptr m 0,.ptr ar 0,.ptr b 0,I 0,I 1,I 1,.bool false] 111)=h9 at x9 g9⊢;have ai:=x9.hb f;have l9:=ai _ _ g9;have e2:(Co.start g).S.g=g:=(We (Er g) (Ej g) (Mi.new g) (g.D*g.Z).toNat).2.1;have c8:=f _ _ ax;have c9:=f _ _ ad.map;have da:=f _ _ ad.row;have db:=f _ _ ad.live;have t8:=k8.next
 have M9:=M8.ext f x9;refine .ret ⟨?_,ai,?_⟩
 ·exact(Ext.kf bn).trans ((k8.trans (Ext.kf x9)).mono fun i hi y=>hi (by have y:i<h.next:=y;show i<h4.next;omega))
 ·rw[aK ⟨trivial,a_⟩]
  refine⟨⟨G.next+1,ar,m,b,ml,ll⟩,rfl,⟨M9.less fun i hi=>?_,g9,x9.at f ax,?_,Co.ZK hr,fun i hi y=>?_,ai⟩,?_⟩
  ·rcases hi with hi|hi|hi|hi|hi|hi
   ·exact .inl (.inl (show i<h4.next by have hi:i<h.next:=hi;omega))
   ·exact .inr ⟨by have hi:i=G.next+1:=hi;omega,by have hi:i=G.next+1:=hi;omega⟩
   ·exact .inl (.inr (.inr (.inr (.inr hi))))
   ·exact .inl (.inr (.inl hi))
   ·exact .inl (.inr (.inr (.inl hi)))
   ·exact .inl (.inr (.inr (.inr (.inl hi))))
  ·show Qs h9 b ml ll (Co.start g).S.g _
   rw[e2];exact ad.ext fun i o g=>x9.at f g
  ·have hi:i<h.next:=hi
   rcases y with y|y|y|y|y
   ·have y:i=G.next+1:=y;omega
   ·have y:i=ar:=y;omega
   ·have y:i=b:=y;omega
   ·have y:i=ml:=y;omega
   ·have y:i=ll:=y;omega
  ·show h.next<=G.next+1
   omega
def z8(b:Nat):EV:=.int .u8 (Int.ofNat b)
theorem ZR{v2 v3:Nat}(n23:v2≠v3):∀(m i:Nat) (h:Ab),32-i<m->i<=32->HB h->h.get v2=some (.cells (List.replicate 32 (z8 0)) 81)->h.get v3=some (.cells (List.replicate i (z8 b)++List.replicate (32-i) (z8 0)) 81) ->
 Ok (Ur K m (z8 b) (.ptr v2 0) (.ptr v3 0) (I i) h) fun v h'=>v=.agg (List.replicate 32 (z8 b))/\As (fun j=>j=v2\/j=v3) h h'/\HB h':=by
 intro m;induction m with
 | zero=>intro i h hm;omega
 | succ m G=>
  intro i h hm hi hb a f;rw[Ur];simp only[I,Ac,Aa];by_cases p:i<32
  ·have:decide ((i:Int)<32)=true:=by simp;omega
   simp only[this,Aa,FK];rw[kB p];simp only[Aa,br];have y:=hb _ _ f;refine Ok.gK f rfl rfl (by simp;omega) ?_;simp only[FL,Ac];rw[Cn,show((i:Nat):Int)+1=((i+1:Nat):Int) from a_];have J:((List.replicate i (z8 b)++List.replicate (32-i) (z8 0)).set i (z8 b))=List.replicate (i+1) (z8 b)++List.replicate (32-(i+1)) (z8 0):=by
    rw[eO _ _ (by simp),bO,fG,show 32-i=(32-(i+1))+1 from a_,eF,List.set_cons_zero,List.replicate_succ',bm];rfl
   rw[J];refine(G (i+1) _ a_ a_ (hb.put y _) (by rw[Af _ (cX n23)];exact a) (Ae _ _ _)).mono ?_;rintro v h' ⟨rfl,c,t⟩;exact⟨rfl,((As.refl (S:=fun j=>j=v2\/j=v3) h).Aq (.inl (.inr rfl)) y _).trans c,t⟩
  ·have:decide ((i:Int)<32)=false:=by simp;omega
   have u:i=32:=a_
   subst u;simp only[this,Aa,FM];rw[Cz f rfl,Ak (n:=32) (by simp)];simp only[Aa];have D:=hb _ _ a;refine Ok.st (List.replicate 32 (z8 b)) a rfl rfl (Bn rfl) ?_;rw[Wi (Ae _ _ _) jk.1 jk.2 rfl];exact .ret ⟨rfl,(As.refl (S:=fun j=>j=v2\/j=v3) h).Aq (.inl (.inl rfl)) D _,hb.put D _⟩
theorem ZS(hK:100<K)(b:Nat)(hb:HB h):Ok (sE K (z8 b) h) fun v h'=>v=.agg (Be (List.replicate 32 b))/\Ext h h'/\HB h':=by
 simp only[sE,Aa];rw[show(h.new (.cells (List.replicate 32 (EV.int .u8 0)) 81)).next=h.next+1 from rfl];have f:Ext h ((h.new (.cells (List.replicate 32 (EV.int .u8 0)) 81)).new (.cells (List.replicate 32 (EV.int .u8 0)) 81)):=(As.new _ _).Dn _;have p:((h.new (.cells (List.replicate 32 (EV.int .u8 0)) 81)).new (.cells (List.replicate 32 (EV.int .u8 0)) 81)).get h.next=some (.cells (List.replicate 32 (z8 0)) 81):=by
  rw[Ba _ (aT _)];exact Ad _ _
 have t:((h.new (.cells (List.replicate 32 (EV.int .u8 0)) 81)).new (.cells (List.replicate 32 (EV.int .u8 0)) 81)).get (h.next+1)=some (.cells (List.replicate 0 (z8 b)++List.replicate (32-0) (z8 0)) 81):=Ad _ _;refine(ZR (K:=K) (b:=b) (v2:=h.next) (v3:=h.next+1) a_ K 0 _ a_ a_ (f.hb hb) p t).mono ?_;rintro v h' ⟨rfl,c,a⟩;refine⟨?_,f.then c fun i hi u=>?_,a⟩
 ·unfold Be;rw[eh];rfl
 ·rcases hi with hi|hi<;>omega
theorem Jj.Bm {e:Jj}(w:e.Wf):e.cells.length=68:=by
 unfold Jj.cells;rw[aF,w.len];rfl
structure A1c(h:Ab)(v:EV)(b:Nat)(L:List Int):Prop where
 row:(L = []/\lenOf v=some 0)\/∃off r op,v=.slice b off L.length r op/\∀j (hj:j<L.length) (k:EV->R),Ec (.ptr b (off+j)) h k=k (I L[j])
theorem A1c.frame{L:List Int}(r:A1c h v b L)(e:0<L.length->h'.get b=h.get b):A1c h' v b L:=by
 refine⟨?_⟩;rcases r.row with y|⟨off,a,op,rfl,y⟩
 ·exact .inl y
 ·refine .inr ⟨off,a,op,rfl,fun j hj k=>?_⟩
  have:=y j hj k;show oB _ (jY (h'.get b) _ 1)=_;rw[e a_];exact this
theorem A1c.Gi{L:List Int}(r:A1c h v b L)(k:EV->R):Ev.Gi v k=k (I L.length):=by
 rcases r.row with⟨rfl,y⟩|⟨off,a,op,rfl,_⟩
 ·unfold Ev.Gi;rw[y];rfl
 ·rfl
theorem A1c.at{L:List Int}(r:A1c h v b L)(hj:j<L.length)(k:EV->R):Wn 1 v (.int .i64 (j:Int)) (fun p=>Ec p h k)=k (I L[j]):=by
 rcases r.row with⟨rfl,_⟩|⟨off,a,op,rfl,y⟩
 ·exact absurd hj (cJ _)
 ·rw[Lg hj,br];exact y j hj k
structure K2 where
 kind:Int
 x:Int
 y:Int
 bl:EV
 bq:Nat
 bs:List Int
 ev:Jj
variable {o:K2}
def K2.cells(o:K2):List EV:=[I o.kind,I o.x,I o.y,o.bl]++o.ev.cells
structure K2.At(h:Ab)(o:K2):Prop where
 row:A1c h o.bl o.bq o.bs
 ev:o.ev.Wf
 pl:o.bl.plain=true/\o.bl.cells = [o.bl]
theorem K2.len(w:o.ev.Wf):o.cells.length=72:=by
 unfold K2.cells;rw[aF,Jj.Bm w];rfl
def wb(n:Int):Nat:=(n%256).toNat
theorem ZT(n:Int):wb n<256:=by unfold wb;omega
theorem ZU(n:Int):Cr .u8 (Cr .i64 n)=Int.ofNat (wb n):=by
 rw[Lx,Lx];unfold wb;have h1:IntKind.u8.wrap (IntKind.i64.wrap n)=(IntKind.i64.wrap n)%256:=rfl;have h2:(IntKind.i64.wrap n)%256=n%256:=by
  simp only[IntKind.wrap,IntKind.bits,IntKind.signed,bG,aW];split<;>omega
 rw[h1,h2];show _=(((n%256).toNat:Nat):Int);omega
def kE(x:Int)(bs:List Int)(i:Nat):Wr:=⟨bs.getD i 0,List.replicate 32 (wb (x+i))⟩
def wrs(x:Int)(bs:List Int):List Wr:=(List.range bs.length).map (kE x bs)
theorem vV(x:Int)(bs:List Int)(i:Nat):(kE x bs i).Wf:=⟨bO,fun b hb=>by rw[bY hb];exact ZT _⟩
theorem kF(x:Int)(bs:List Int):(wrs x bs).length=bs.length:=by unfold wrs;simp
theorem ZV(a:Int)(f:bl.length=32):iU (D1 [(0,1),(1,32)]) [(0,I a),(1,.agg (Be bl))] ([EV.int .i64 0]++List.replicate 32 (.int .u8 0))=some (⟨a,bl⟩:Wr).cells:=by
 have hs:=qd [I a] (List.replicate 32 (EV.int .u8 0)) (Be bl) (by rw[Az,f];simp);rw[<-Un]at hs;show Bc (Nat.beq (Fp (Be bl)) 32) (oB (fun z=>some z) (Mf ([I a]++List.replicate 32 (EV.int .u8 0)) 1 (Be bl))) none=_;rw[Bb,Az,f,cO,Aj];rw[show(1:Nat) = [I a].length from rfl,hs];rfl
theorem ZW {L:List Wr}(w:∀x∈L,x.Wf):∀x∈L.map Wr.cells,x.length=33:=fun x a=>by
 obtain⟨y,f,rfl⟩:=cN.1 a;exact Wr.len (w y f)
theorem ZX(x:Int)(bs:List Int)(hi:i<bs.length):((List.range (i+1)).map (kE x bs)).map Wr.cells=((List.range i).map (kE x bs)).map Wr.cells++[(kE x bs i).cells]:=by
 rw[dB,cI,cI];rfl
theorem FN(hK:1000<K){v1:Nat}(hl:o.bs.length<=1048576):∀(f i:Nat) (h:Ab) (s:EV) (q:Nat),o.bs.length-i<f->i<=o.bs.length->HB h->Ext h0 h->h.get v1=some (.cells o.cells 36)->v1<h0.next->(0<o.bs.length->o.bq<h0.next)->A1c h o.bl o.bq o.bs->Ce h s q 84 33 i (((List.range i).map (kE o.x o.bs)).map Wr.cells).flatten->(0<i->h0.next<=q) ->
 Ok (Fo K f (.ptr v1 0) s o.bl (I o.bs.length) (I i) h) fun v h'=>∃q,jE h' v q (wrs o.x o.bs)/\Ext h0 h'/\HB h'/\(0<o.bs.length->h0.next<=q/\q<h'.next):=by
 intro f;induction f with
 | zero=>intro i h s q V;omega
 | succ f ih=>
  intro i h s q V hi hb t O l1 J P row lq;rw[Fo];simp only[I,Ac];by_cases a:i<o.bs.length
  ·have:decide ((i:Int)<(o.bs.length:Int))=true:=by simp;omega
   simp only[this,Aa,Rg];rw[P.at a];have gx:∀k:EV->R,Ec (.ptr v1 1) h k=k (I o.x):=fun k=>Al O rfl rfl
   simp only[Aa,gx,I,Ac,FO];rw[ZU];refine(ZS (K:=K) a_ (wb (o.x+i)) hb).Ao ?_;rintro _ h2 ⟨rfl,M,u⟩;rw[show EV.int .i64 o.bs[i]=I o.bs[i]from rfl,Ax (ZV _ (by simp))];have wf:=vV o.x o.bs i;have ew:(⟨o.bs[i],List.replicate 32 (wb (o.x+i))⟩:Wr)=kE o.x o.bs i:=by
    unfold kE;rw[show o.bs.getD i 0=o.bs[i] by rw[List.getD,aE a];rfl]
   rw[ew];have D:=row.frame (h':=h2) fun y=>M.get _ (hb _ _ (row.block y)) id
   refine Ny D u rfl (by simp) (Wr.len wf) a_ a_ ?_;intro h3 G n3 c3;simp only[Ra,Ac];rw[Cn,show((i:Nat):Int)+1=((i+1:Nat):Int) from a_];have c:As (fun j=>0<i/\j=q) h h3:=(Ext.to M).trans c3;have t0:=t.next
   have t2:=M.next
   refine ih (i+1) h3 _ (h2.next+1) a_ a_ (c3.hb u) (t.then c fun j hj y=>?_) (c.at hb O fun y=>?_) l1 J (P.frame fun y=>c.get _ (by have:=J y;omega) fun z=>?_) ?_ (fun _=>by omega)
   ·have:=lq hj.1;have:=hj.2;omega
   ·have:=lq y.1;have:=y.2;omega
   ·have:=lq z.1;have:=z.2;have:=J y;omega
   ·rw[ZX _ _ a,cz,show([(kE o.x o.bs i).cells]).flatten=(kE o.x o.bs i).cells from cT _]
    exact G
  ·have:i=o.bs.length:=a_
   subst this;simp only[Int.lt_irrefl,aA,Aa,Rv];have p:∀w∈wrs o.x o.bs,w.Wf:=fun w hw=>by unfold wrs at hw;obtain⟨i,_,rfl⟩:=cN.1 hw;exact vV _ _ _
   rcases dW o.bs.length with y|y
   ·have e0:wrs o.x o.bs = []:=dh (by rw[kF,y])
    rcases row with⟨_,_,rfl|⟨b,rfl⟩⟩|⟨z,_⟩
    ·exact .ret ⟨0,⟨.inl ⟨rfl,e0⟩,p⟩,t,hb,fun z=>a_⟩
    ·exact .ret ⟨b,⟨.inr ⟨0,0,false,by rw[kF,y],fun j hj=>by rw[kF]at hj;omega⟩,p⟩,t,hb,fun z=>a_⟩
    ·omega
   ·refine .ret ⟨q,⟨?_,p⟩,t,hb,fun y=>⟨lq y,hb _ _ (row.block y)⟩⟩
    ·refine .inr ⟨0,o.bs.length,true,by rw[kF];exact row.slice y,fun j hj k=>?_⟩
     rw[bJ];refine Cu (row.block y) rfl ?_;have:=vW (n:=33) (l:=(wrs o.x o.bs).map Wr.cells) (ZW fun x U=>by unfold wrs at U;obtain⟨i,_,rfl⟩:=cN.1 U;exact vV _ _ _) (j:=j) (by rw[bT];exact hj);rw[List.getElem_map]at this;exact this
end Go.Ev
