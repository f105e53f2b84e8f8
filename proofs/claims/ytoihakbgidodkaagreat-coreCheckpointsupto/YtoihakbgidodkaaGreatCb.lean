import Derived.Test.YtoihakbgidodkaaGreatCa
set_option linter.all false
namespace Go.Ev
open Go.Proofs
set_option maxRecDepth 100000
variable {h h' h0 h1:Ab}{F P T:Nat->Prop}{K b d e i j m n q l0 ml zq:Nat}{S S':Mi}{x:Int}{Cn cur:Nat->Int}{mH:EV->EV->EV->Ab->R}{k:EV->Ab->R}{Q:EV->Ab->Prop}{g:Gm}{es:List Me}{Stop:Ab->Prop}{tm:Ba}{ex:Nat->Ab->List Nat->R}{ps:Nat->List Int}{D:Jj}{bl:List Nat}{v:EV}{disp:Nat->Option FT}
section
structure Co where
 S:Mi
 cur:Nat->Int
 Cn:Nat->Int
 es:List Me
 gen:Int
 ep:Int
 nx:Int
 st:Bool
structure Cb where
 c:Nat
 ar:Nat
 m:Nat
 b:Nat
 ml:Nat
 ll:Nat
def Cb.own(B:Cb)(i:Nat):Prop:=i=B.c\/i=B.ar\/i=B.b\/i=B.ml\/i=B.ll
def Cb.fr(B:Cb)(F:Nat->Prop)(i:Nat):Prop:=F i\/B.own i
def Co.cells(B:Cb)(X:Co):List EV:=[.ptr B.m 0,.ptr B.ar 0,.ptr B.b 0,I X.gen,I X.ep,I X.nx,.bool X.st]
structure Co.Wf(X:Co):Prop where
 rt:rtB X.S.g=true
 an:Ag3 X.S X.cur X.Cn
 sz:0<X.S.dr.dv.size
structure Ex(h:Ab)(B:Cb)(X:Co)(F:Nat->Prop):Prop where
 M:C8 h B.m X.S (B.fr F)
 core:h.get B.c=some (.cells (X.cells B) 111)
 ar:h.get B.ar=some (.cells (arC B.m X.cur X.Cn) 126)
 map:K7 h B.b B.ml B.ll X.S.g X.es
 wf:X.Wf
 out:∀i,F i->¬B.own i
 hb:HB h
def Ck(X Y:Co):Prop:=Mk X.S Y.S
theorem Ck.refl(X:Co):Ck X X:=Mk.refl _
theorem Ck.trans {X Y Z:Co}(a:Ck X Y)(b:Ck Y Z):Ck X Z:=Mk.trans a b
structure Gr(h h':Ab)(B:Cb)(X:Co)(F:Nat->Prop)(Y:Co):Prop where
 C:Ex h' B Y F
 k:Kf F h h'
 ck:Ck X Y
section
variable{B:Cb}{X Y:Co}{F':Nat->Prop}
theorem Ex.ne(C:Ex h B X F):B.c≠B.ar/\B.c≠B.b/\B.c≠B.ml/\B.c≠B.ll/\B.ar≠B.b/\B.ar≠B.ml/\B.ar≠B.ll/\B.b≠B.ml/\B.b≠B.ll/\B.ml≠B.ll:=
 ⟨Av C.core C.ar (by simp),Av C.core C.map.map (by simp),Av C.core C.map.row (by simp),Av C.core C.map.live (by simp),Av C.ar C.map.map (by simp),Av C.ar C.map.row (by simp),Av C.ar C.map.live (by simp),
  Av C.map.map C.map.row (by simp),Av C.map.map C.map.live (by simp),Av C.map.row C.map.live (by simp)⟩
theorem Ex.sm(C:Ex h B X F):Sm X.S.g:=C.M.wf.sm
theorem Gr.refl(C:Ex h B X F):Gr h h B X F X:=⟨C,Aw.refl _,Ck.refl _⟩
theorem Gr.trans {h2 h3:Ab}{X Y Z:Co}(a:Gr h1 h2 B X F Y)(b:Gr h2 h3 B Y F Z):Gr h1 h3 B X F Z:=⟨b.C,a.k.trans b.k,a.ck.trans b.ck⟩
theorem Gr.hb(a:Gr h h' B X F Y):HB h':=a.C.hb
theorem C8.kp(M:C8 h m S F)(k:Kp T h h'):C8 h' m S (Bg F h h'):=by
 refine⟨(M.s.frame k.chg.next fun i a=>k.same i a.1).mono (fun i a=>⟨aL a.1 k.chg.next,fun y=>?_⟩) fun i a=>a.1,Bg.lt M.lt k.chg.next,M.wf⟩;rcases y with y|y
 ·exact a.2 y
 ·have:=a.1;omega
theorem Ex.kp(C:Ex h B X F)(k:Kp T h h'):Ex h' B X (Bg F h h'):=by
 refine⟨(C.M.kp k).less fun i a=>?_,k.at C.hb C.core,k.at C.hb C.ar,C.map.ext fun i o g=>k.at C.hb g,C.wf,fun i a=>?_,k.chg.hb C.hb⟩
 ·rcases a with(a|a)|a
  ·exact .inl (.inl a)
  ·exact .inr a
  ·exact .inl (.inr a)
 ·rcases a with a|a
  ·exact C.out i a
  ·intro y
   have f:=C.hb _ _ C.core;have p:=C.hb _ _ C.ar;have a3:=C.hb _ _ C.map.map;have a4:=C.hb _ _ C.map.row;have t:=C.hb _ _ C.map.live;rcases y with y|y|y|y|y<;>omega
theorem Ex.less(C:Ex h B X F)(s:∀i,F' i->F i):Ex h B X F':=
 ⟨C.M.less fun i a=>a.imp (s i) id,C.core,C.ar,C.map,C.wf,fun i a=>C.out i (s i a),C.hb⟩
theorem Ex.ext(C:Ex h B X F)(x:Ext h h'):Ex h' B X (Bg F h h'):=C.kp (T:=fun _=>False) (Ext.kp x)
theorem Ex.gU(C:Ex h B X F)(x:Ext h h'):Gr h h' B X F X:=⟨(C.ext x).less fun _=>.inl,Ext.kf x,Ck.refl _⟩
theorem Ex.YD(C:Ex h B X F)(k:Kp T h h')(t:∀i,T i->¬F i):Gr h h' B X F X:=⟨(C.kp k).less fun _=>.inl,k.chg.mono t,Ck.refl _⟩
theorem Co.Wf.Jb(w:X.Wf)(mk:Mk X.S S'):({ X with S:=S' }:Co).Wf:=⟨by show rtB S'.g=true;rw[mk.g];exact w.rt,w.an.of mk.g,by show 0<S'.dr.dv.size;rw[mk.dr.size];exact w.sz⟩
theorem Ex.Jb(C:Ex h B X F)(f:C8 h' B.m S' (B.fr F))(k:Kf (B.fr F) h h')(a:HB h')(mk:Mk X.S S'):Gr h h' B X F { X with S:=S' }:=by
 have g:S'.g=X.S.g:=mk.g;exact⟨⟨f,k.at C.hb C.core (.inr (.inl rfl)),k.at C.hb C.ar (.inr (.inr (.inl rfl))),by
  show K7 h' B.b B.ml B.ll S'.g X.es;rw[g];exact C.map.frame (k.get _ (C.hb _ _ C.map.map) fun y=>y (.inr (.inr (.inr (.inl rfl))))) (k.get _ (C.hb _ _ C.map.row) fun y=>y (.inr (.inr (.inr (.inr (.inl rfl)))))) (k.get _ (C.hb _ _ C.map.live) fun y=>y (.inr (.inr (.inr (.inr (.inr rfl)))))),
  C.wf.Jb mk,C.out,a⟩,k.less fun _=>.inl,mk⟩
theorem Ex.YE(C:Ex h B X F){cur' old':Nat->Int}(p:C8 h' B.m S' (B.fr F))(t:h'.get B.ar=some (.cells (arC B.m cur' old') 126))(c:Aw (fun j=>¬B.fr F j\/j=B.ar) h h')(a:HB h')(mk:Mk X.S S')(an:Ag3 S' cur' old'):
 Gr h h' B X F { X with S:=S',cur:=cur',Cn:=old' }:=by
 have g:S'.g=X.S.g:=mk.g;obtain⟨u,U,n3,n4,E,G,J,V,W,M⟩:=C.ne;have kp:∀i,B.own i->i≠B.ar->¬(¬B.fr F i\/i=B.ar):=fun i f O y=>y.elim (fun y=>y (.inr f)) O
 exact⟨⟨p,c.at C.hb C.core (kp _ (.inl rfl) u),t,by
  show K7 h' B.b B.ml B.ll S'.g X.es;rw[g];exact C.map.frame (c.get _ (C.hb _ _ C.map.map) (kp _ (.inr (.inr (.inl rfl))) E.symm)) (c.get _ (C.hb _ _ C.map.row) (kp _ (.inr (.inr (.inr (.inl rfl)))) G.symm)) (c.get _ (C.hb _ _ C.map.live) (kp _ (.inr (.inr (.inr (.inr rfl)))) J.symm)),
  ⟨by show rtB S'.g=true;rw[g];exact C.wf.rt,an,by show 0<S'.dr.dv.size;rw[mk.dr.size];exact C.wf.sz⟩,C.out,a⟩,
  c.mono fun i f y=>f.elim (fun w=>w (.inl y)) fun w=>C.out i y (w▸.inr (.inl rfl)),mk⟩
theorem Ex.YF(C:Ex h B X F){a:List Me}(mp:K7 h' B.b B.ml B.ll X.S.g a)(c:Aw (fun i=>i=B.ml\/i=B.ll) h h')(p:HB h'):Gr h h' B X F { X with es:=a }:=by
 obtain⟨J,O,n3,n4,U,u,E,V,W,G⟩:=C.ne;have t:∀i,i=B.ml\/i=B.ll->B.own i:=fun i f=>f.elim (fun y=>.inr (.inr (.inr (.inl y)))) fun y=>.inr (.inr (.inr (.inr y)))
 exact⟨⟨C.M.iv c fun i f _=>.inr (t i f),c.at C.hb C.core fun y=>y.elim n3 n4,c.at C.hb C.ar fun y=>y.elim u E,mp,⟨C.wf.rt,C.wf.an,C.wf.sz⟩,C.out,p⟩,c.mono fun i f y=>C.out i y (t i f),Mk.refl _⟩
theorem Ex.qM(C:Ex h B X F)(g e n:Int)(s:Bool):Gr h (h.put B.c (.cells (({ X with gen:=g,ep:=e,nx:=n,st:=s }:Co).cells B) 111)) B X F { X with gen:=g,ep:=e,nx:=n,st:=s }:=by
 obtain⟨f,p,n3,n4,u,E,G,J,O,t⟩:=C.ne;have l:=C.hb _ _ C.core;have c:Aw (fun i=>i=B.c) h (h.put B.c (.cells (({ X with gen:=g,ep:=e,nx:=n,st:=s }:Co).cells B) 111)):=(Aw.refl (S:=fun i=>i=B.c) h).Ao (.inl rfl) l _;exact⟨⟨C.M.iv c fun i a _=>.inr (.inl a),Af _ _ _,by rw[Ae _ f];exact C.ar,C.map.frame (Ae _ p) (Ae _ n3) (Ae _ n4),⟨C.wf.rt,C.wf.an,C.wf.sz⟩,C.out,C.hb.put l _⟩,c.mono fun i a y=>C.out i y (.inl a),Mk.refl _⟩
theorem Ex.iv(C:Ex h B X F)(c:Aw T h h')(t:∀i,T i->i<h.next->F i)(a:HB h'):Ex h' B X F:=by
 have no:∀i,B.own i->i<h.next->¬T i:=fun i f p y=>C.out i (t i y p) f
 have l1:=C.hb _ _ C.core;have J:=C.hb _ _ C.ar;have u:=C.hb _ _ C.map.map;have E:=C.hb _ _ C.map.row;have G:=C.hb _ _ C.map.live;exact⟨C.M.iv c fun i f p=>.inl (t i f p),c.at C.hb C.core (no _ (.inl rfl) l1),c.at C.hb C.ar (no _ (.inr (.inl rfl)) J),
  C.map.frame (c.get _ u (no _ (.inr (.inr (.inl rfl))) u)) (c.get _ E (no _ (.inr (.inr (.inr (.inl rfl)))) E)) (c.get _ G (no _ (.inr (.inr (.inr (.inr rfl)))) G)),C.wf,C.out,a⟩
end
section
variable{B:Cb}{X:Co}(C:Ex h B X F)
include C
theorem Ex.hH(k:EV->R):Et (.ptr B.c 0) h k=k (.ptr B.m 0):=Ak C.core rfl rfl
theorem Ex.I6(k:EV->R):Et (.ptr B.c 1) h k=k (.ptr B.ar 0):=Ak C.core rfl rfl
theorem Ex.jh(k:EV->R):Et (.ptr B.c 2) h k=k (.ptr B.b 0):=Ak C.core rfl rfl
theorem Ex.CZ(k:EV->R):Et (.ptr B.c 3) h k=k (I X.gen):=Ak C.core rfl rfl
theorem Ex.C_(k:EV->R):Et (.ptr B.c 4) h k=k (I X.ep):=Ak C.core rfl rfl
theorem Ex.j6(k:EV->R):Et (.ptr B.c 5) h k=k (I X.nx):=Ak C.core rfl rfl
theorem Ex.YG(k:EV->R):Et (.ptr B.c 6) h k=k (.bool X.st):=Ak C.core rfl rfl
end
end
variable {X Y:Co}{B:Cb}
section
theorem YH:(Eb TT 39 0).2.1 = [8]:=by kernel_rfl
theorem YI {a b:EV}(hj:j<2)(k:EV->R):j8 2 1 false 1 (.agg [a,b]) (I j) k=k (if j=0 then a else b):=by
 rcases j with _|_|j<;>first|rfl|omega
theorem YJ {a:Nat->Int}{o:Nat->Int}(f:i<3)(k:EV->R):j8 3 2 true 2 (.agg [I (a 0),I (o 0),I (a 1),I (o 1),I (a 2),I (o 2)]) (I i) k=k (.agg [I (a i),I (o i)]):=by
 rcases i with _|_|_|i<;>first|rfl|omega
def Uc(x z:Int):Bool:=decide (¬x = -1)&&decide (x=z)
theorem YK {z:Int}(h:¬x=z):Uc x z=false:=by unfold Uc;rw[aS h,eO]
theorem YL {z:Int}(h:¬x = -1)(e:x=z):Uc x z=true:=by unfold Uc;rw[aQ h,aQ e];rfl
def mI(cur Cn:Nat->Int)(z:Int):Nat->Bool
 | 0=>false
 | i+1=>mI cur Cn z i||(Uc (cur i) z||Uc (Cn i) z)
def js(cur Cn:Nat->Int)(z:Int):Bool:=mI cur Cn z 3
theorem DC{z:Int}(a:i<=3)(h:mI cur Cn z i=true):js cur Cn z=true:=by
 have st:∀i,mI cur Cn z i=true->mI cur Cn z (i+1)=true:=fun i h=>by
  show(mI cur Cn z i||(Uc (cur i) z||Uc (Cn i) z))=true;rw[h];rfl
 unfold js;rcases i with _|_|_|_|i
 ·cases h
 ·exact st _ (st _ h)
 ·exact st _ h
 ·exact h
 ·omega
structure lW(h:Ab)(l0 d0:Nat)(tm:Ba)(b3 b4:Nat)(z:Int)(found:Bool):Prop where
 lp:h.get l0=some (Au TT 39 12 0 tm (if found then .done else .ready) (if found then some .ret else none) d0)
 c3:h.get b3=some (.cells [I z] 3)
 c4:h.get b4=some (.cells [.bool found] 4)
 hb:HB h
section
variable (H:Ca disp){d0 b3 b4:Nat}{z:Int}(t3:tmp tm 3=.ptr b3 0)(t4:tmp tm 4=.ptr b4 0)
include H t3 t4
theorem YM(he:1<=e)(M:lW h l0 d0 tm b3 b4 z false):
 ∃h',Ag TT disp K (e+1) true l0 [I x] h=some (.bool (decide (¬x=z)),h')/\lW h' l0 d0 tm b3 b4 z (decide (x=z))/\Aw (fun j=>j=l0\/j=b4) h h':=by
 have G:=M.lp;simp only[aT,ak]at G;have p:=G;have O:=M.c3;have g4:=M.c4;have hb:=M.hb;unfold Au at p;rw[YH]at p;rw[YN H he tm h (I x) p,t3,t4];have J:=hb _ _ G;have W:=hb _ _ g4;have t:l0≠b3:=Av G O (by simp[Au]);have a:l0≠b4:=Av G g4 (by simp[Au]);have n34:b3≠b4:=Av O g4 (by simp[I]);simp only[DD,T6 G,Z6,dr];have f:(h.put l0 (Au TT 39 12 0 tm .busy none d0)).get b3=some (.cells [I z] 3):=by rw[Ae _ t];exact O
 have u:(h.put l0 (Au TT 39 12 0 tm .busy none d0)).get b4=some (.cells [.bool false] 4):=by rw[Ae _ a];exact g4
 have y:(h.put l0 (Au TT 39 12 0 tm .busy none d0)).get l0=some (Au TT 39 12 0 tm .busy none d0):=Af _ _ _;have U:Aw (fun j=>j=l0\/j=b4) h (h.put l0 (Au TT 39 12 0 tm .busy none d0)):=(Aw.refl h).Ao (.inl (.inl rfl)) J _;have E:HB (h.put l0 (Au TT 39 12 0 tm .busy none d0)):=hb.put J _;have Z:(h.put l0 (Au TT 39 12 0 tm .busy none d0)).next=h.next:=rfl
 generalize h.put l0 (Au TT 39 12 0 tm .busy none d0)=h1 at f u y U E Z⊢;simp only[Cy f rfl,Aa,I,Ac];by_cases V:x=z
 ·simp only[V,aB,Aa,aC,aA]
  rw[mF (o:=0) (n:=1) (v:=.bool true) (l':=[.bool true]) u rfl rfl rfl,Pf (by rw[Ae _ (cn a)];exact y)];exact⟨_,rfl,⟨Af _ _ _,by rw[Ae _ t,Ae _ (cn n34)];exact f,by rw[Ae _ a];exact Af _ _ _,(E.put a_ _).put (by rw[Ab.Nz];omega) _⟩,(U.Ao (.inl (.inr rfl)) a_ _).Ao (.inl (.inl rfl)) (by rw[Ab.Nz];omega) _⟩
 ·simp only[V,aA,Aa,aH,aB]
  rw[Pf y];exact⟨_,rfl,⟨Af _ _ _,by rw[Ae _ t];exact f,by rw[Ae _ a];exact u,E.put a_ _⟩,U.Ao (.inl (.inl rfl)) a_ _⟩
def qN(h:Ab)(l0 d0:Nat)(tm:Ba)(b3 b4:Nat)(z:Int)(f:Bool):EV->Ab->Prop:=fun _ h'=>lW h' l0 d0 tm b3 b4 z f/\Aw (fun j=>j=l0\/j=b4) h h'
theorem YO(he:2<=e){v10 v11:EV}{y:Int}{f:Bool}(M:Uc x z=true->f=true)(O:Uc y z=true->f=true)
 (hk:Uc x z=false->Uc y z=false->∀h,lW h l0 d0 tm b3 b4 z false->Aw (fun j=>j=l0\/j=b4) h0 h->Ok (K0 (Ag TT disp K e false) (Ag TT disp K e true) K mH (.U5 l0) v10 v11 h) (qN h0 l0 d0 tm b3 b4 z f)) :
 ∀(m j:Nat) (h:Ab),2-j<m->j<=2->(1<=j->Uc x z=false)->(2<=j->Uc y z=false)->lW h l0 d0 tm b3 b4 z false->Aw (fun j=>j=l0\/j=b4) h0 h ->
  Ok (El (Ag TT disp K e false) (Ag TT disp K e true) K mH m (.U5 l0) v10 v11 (.agg [I x,I y]) (I j) h) (qN h0 l0 d0 tm b3 b4 z f):=by
 intro m;induction m with
 | zero=>intro j h hm;omega
 | succ m ih=>
  intro j h hm hj jx jy U J;rw[El];simp only[I,Ac];by_cases V:j<2
  ·have e3:decide ((j:Int)<2)=true:=by simp;omega
   simp only[e3,Aa,DE];have pv:=fun k=>YI (a:=I x) (b:=I y) V k
   simp only[I]at pv;rw[pv];have go:∀v:Int,(Uc v z=true->f=true)->(Uc v z=false->(1<=j+1->Uc x z=false)/\(2<=j+1->Uc y z=false))->Ok (Jk iF (bin TT .neq 3) (.int .i64 v) (.int .i64 (-1)) fun t=>Bb (Fa t true)
    (Al (P0 (Ag TT disp K e false) (Ag TT disp K e true) (.U5 l0) [.int .i64 v] h) fun W h=>iX W fun Z=>It (Ag TT disp K e false) (Ag TT disp K e true) K mH (El (Ag TT disp K e false) (Ag TT disp K e true) K mH m) (.U5 l0) v10 v11 (.agg [.int .i64 x,.int .i64 y]) (.int .i64 (j:Int)) t Z h)
    (It (Ag TT disp K e false) (Ag TT disp K e true) K mH (El (Ag TT disp K e false) (Ag TT disp K e true) K mH m) (.U5 l0) v10 v11 (.agg [.int .i64 x,.int .i64 y]) (.int .i64 (j:Int)) t (.tuple []) h)) (qN h0 l0 d0 tm b3 b4 z f):=by
    intro v aa G;have nx:Uc v z=false->∀h2,lW h2 l0 d0 tm b3 b4 z false->Aw (fun j=>j=l0\/j=b4) h0 h2->Ok (U0 (Ag TT disp K e false) (Ag TT disp K e true) K mH (El (Ag TT disp K e false) (Ag TT disp K e true) K mH m) (.U5 l0) v10 v11 (.agg [.int .i64 x,.int .i64 y]) (.int .i64 (j:Int)) h2) (qN h0 l0 d0 tm b3 b4 z f):=by
     intro p h2 u c2;simp only[U0,Ac];rw[Ci,show((j:Nat):Int)+1=((j+1:Nat):Int) from a_];exact ih (j+1) h2 a_ a_ (G p).1 (G p).2 u c2
    simp only[Ac];by_cases h1:v = -1
    ·simp only[h1,aC,aA,Aa,Ac,It]
     exact nx (by unfold Uc;rw[aS (fun y=>y h1),bB]) h U J
    ·have ab:=h1
     simp only[h1,aH,aB,Aa,Ac];obtain⟨e,rfl⟩:=d_ e;obtain⟨h2,r1,u,c2⟩:=YM (K:=K) H t3 t4 (e:=e) a_ (x:=v) U;have hc:P0 (Ag TT disp K (e+1) false) (Ag TT disp K (e+1) true) (.U5 l0) [.int .i64 v] h=some (.bool (decide (¬v=z)),h2):=r1;rw[hc,Aq];by_cases E:v=z
     ·have hf:=aa (YL ab E)
      simp only[E,aB]at u;simp only[E,aC,aA,Aa,It];rw[hf];exact .ret ⟨u,J.trans c2⟩
     ·have p:=YK E
      simp only[E,aA]at u;simp only[E,aH,aB,Aa,It];exact nx p h2 u (J.trans c2)
   rcases j with _|_|j
   ·exact go x M fun p=>⟨fun _=>p,fun y=>a_⟩
   ·exact go y O fun p=>⟨fun _=>jx a_,fun _=>p⟩
   ·omega
  ·have:j=2:=a_
   subst this;simp only[show decide (((2:Nat):Int)<2)=false from rfl,Aa];exact hk (jx a_) (jy a_) h U J
theorem YP(hK:5<K)(he:2<=e):∀(m i:Nat) (h:Ab),3-i<m->i<=3->mI cur Cn z i=false->lW h l0 d0 tm b3 b4 z false->Aw (fun j=>j=l0\/j=b4) h0 h ->
 Ok (Gk (Ag TT disp K e false) (Ag TT disp K e true) K m (.U5 l0) (.agg [I (cur 0),I (Cn 0),I (cur 1),I (Cn 1),I (cur 2),I (Cn 2)]) (I i) h) (qN h0 l0 d0 tm b3 b4 z (js cur Cn z)):=by
 intro m;induction m with
 | zero=>intro i h hm;omega
 | succ m O=>
  intro i h hm hi p f G;rw[Gk];unfold I;simp only[Ac];by_cases u:i<3
  ·have e3:decide ((i:Int)<3)=true:=by simp;omega
   simp only[e3,Aa,DF];have J:=fun k=>YJ (a:=cur) (o:=Cn) u k
   simp only[I]at J;rw[J]
   try simp only[Aa]
   refine Ok.mk rfl rfl fun h2 t M _=>?_
   have U:lW h2 l0 d0 tm b3 b4 z false:=⟨t.at f.hb f.lp,t.at f.hb f.c3,t.at f.hb f.c4,t.hb f.hb⟩;rw[Ak M rfl (v:=I (cur i)) rfl,Ak M rfl (v:=I (Cn i)) rfl,Ax (l:=[I (cur i),I (Cn i)]) rfl];refine YO (K:=K) H t3 t4 he (fun E=>DC (i:=i+1) a_ (by show(_||(Uc (cur i) z||Uc (Cn i) z))=true;rw[E];simp)) (fun E=>DC (i:=i+1) a_ (by show(_||(Uc (cur i) z||Uc (Cn i) z))=true;rw[E];simp)) ?_ K 0 h2 a_ a_ (fun y=>by omega) (fun y=>by omega) U (G.trans (Ext.to t));intro V W h3 Z c3;simp only[K0,Ac];rw[Ci,show((i:Nat):Int)+1=((i+1:Nat):Int) from a_];exact O (i+1) h3 a_ a_ (by show(mI cur Cn z i||(Uc (cur i) z||Uc (Cn i) z))=false;rw[p,V,W];rfl) Z c3
  ·have:i=3:=a_
   subst this;simp only[show decide (((3:Nat):Int)<3)=false from rfl,Aa];rw[show js cur Cn z=false from p];exact .ret ⟨f,G⟩
end
section
variable (H:Ca disp)
include H
theorem DG(hd:5<=d)(hK:1000<K){ar:Nat}(hA:h.get ar=some (.cells (arC m cur Cn) 126))(hb:HB h)(z:Int):
 Ok (Ag TT disp K d false 39 [.ptr ar 0,I z] h) fun v h'=>v=.bool (js cur Cn z)/\Ext h h'/\HB h':=by
 obtain⟨e,rfl⟩:∃k,d=k+2:=⟨d-2,a_⟩;rw[YQ H a_];simp only[DH,I,Aa,wI];have V:Ext h (((h.new (.cells [.int .i64 z] 3)).new (.cells [.bool false] 4)).new (.cells [.ptr ar 0] 60)):=((Aw.new _ _).Da _).Da _;have n1:(((h.new (.cells [.int .i64 z] 3)).new (.cells [.bool false] 4)).new (.cells [.ptr ar 0] 60)).next=h.next+3:=rfl
 have gb:(((h.new (.cells [.int .i64 z] 3)).new (.cells [.bool false] 4)).new (.cells [.ptr ar 0] 60)).get (h.next+2)=some (.cells [.ptr ar 0] 60):=Ad _ _;have g4:(((h.new (.cells [.int .i64 z] 3)).new (.cells [.bool false] 4)).new (.cells [.ptr ar 0] 60)).get (h.next+1)=some (.cells [.bool false] 4):=by
  rw[Az _ (aO _)];exact Ad _ _
 have g3:(((h.new (.cells [.int .i64 z] 3)).new (.cells [.bool false] 4)).new (.cells [.ptr ar 0] 60)).get h.next=some (.cells [I z] 3):=by
  rw[Az _ (show h.next<h.next+2 from a_),Az _ (show h.next<h.next+1 from a_)];exact Ad _ _
 rw[show((h.new (.cells [.int .i64 z] 3)).new (.cells [.bool false] 4)).next=h.next+2 from rfl,show(h.new (.cells [.int .i64 z] 3)).next=h.next+1 from rfl];generalize ((h.new (.cells [.int .i64 z] 3)).new (.cells [.bool false] 4)).new (.cells [.ptr ar 0] 60)=h1 at V n1 gb g4 g3⊢;have t:=V.hb hb;generalize y:((((((Tr.nil.put 0 (some (EV.ptr ar 0))).put 1 (some (EV.int .i64 z))).put 3 (some (EV.ptr h.next 0))).put 4 (some (EV.ptr (h.next+1) 0))).put 6 (some (EV.ptr ar 0))).put 7 (some (EV.func 119 [] [EV.ptr (h.next+2) 0])))=tm;have t3:tmp tm 3=.ptr h.next 0:=by rw[<-y];simp only[F1,reduceIte,Nat.reduceEqDiff]
 have t4:tmp tm 4=.ptr (h.next+1) 0:=by rw[<-y];simp only[F1,reduceIte,Nat.reduceEqDiff]
 clear y;refine Ok.range ?_;rw[YR H (cO _)];simp only[DI,dr];have E:Ext h1 (Bn TT 39 12 0 tm h1):=Ga;have k0:(Bn TT 39 12 0 tm h1).get h1.next=some (.deferred true):=Gw
 have k1:(Bn TT 39 12 0 tm h1).get (h1.next+1)=some (Au TT 39 12 0 tm .ready none h1.next):=F3;generalize Bn TT 39 12 0 tm h1=h3 at E k0 k1⊢;have O:=E.hb t;have aa:h3.get ar=some (.cells (arC m cur Cn) 126):=E.at t (V.at hb hA);rw[Ak (E.at t gb) rfl (v:=.ptr ar 0) rfl];simp only[Aa];rw[Cd aa rfl (show Ke (arC m cur Cn) 1 6=some [I (cur 0),I (Cn 0),I (cur 1),I (Cn 1),I (cur 2),I (Cn 2)]from rfl)];have I3:lW h3 (h1.next+1) h1.next tm h.next (h.next+1) z false:=⟨k1,E.at t g3,E.at t g4,O⟩
 refine(YP (K:=K) H t3 t4 a_ (e:=e) a_ (cur:=cur) (Cn:=Cn) K 0 h3 a_ a_ rfl I3 (Aw.refl _)).mono ?_;rintro _ h4 ⟨u,c4⟩;generalize js cur Cn z=b at u⊢;have W:=u.hb _ _ u.lp;have kd:h4.get h1.next=some (.deferred true):=c4.at O k0 a_
 have x4:Ext h h4:=(V.trans E).then c4 fun i Z a=>a_
 have l5:=u.hb _ _ u.c4;have f:∀(G:Ab) (b:Bool),G.get (h.next+1)=some (.cells [.bool b] 4)->Gi TT [.c (.ptr (h.next+1) 0) 4] G=some (.bool b,G):=by
  intro G b hg;have hr:Jn G (h.next+1) 0 1=some [.bool b]:=by unfold Jn;rw[hg];rfl
  unfold Gi;simp only[j5,show TT.size 4=some 1 by kernel_rfl,show TT.agg 4=some false by kernel_rfl,hr]
 have lp:=u.lp;cases b with
 | true=>
  simp only[bM]at lp;refine .inr ⟨lp,?_⟩;have p:HB (h4.put (h1.next+1) (Au TT 39 12 0 tm .exhausted (some .ret) h1.next)):=u.hb.put W _;refine Ok.unwind (cj.2 ⟨by simp,cy⟩) (fun d hd=>by rw[aP]at hd;subst hd;rw[Ae _];exact kd) p fun U J _=>?_
  have g6:U.get (h.next+1)=some (.cells [.bool true] 4):=Aw.at J p (by rw[Ae _];exact u.c4) (by rw[aP];omega);rw[f U true g6];exact .ret ⟨rfl,(x4.Ao (.inr a_) W _).then J fun i Z a=>by rw[aP]at Z;omega,J.hb p⟩
 | false=>
  simp only[aT,ak]at lp;refine .inl ⟨lp,?_⟩;simp only[Xn,dr];have p:HB (h4.put (h1.next+1) (Au TT 39 12 0 tm .exhausted none h1.next)):=u.hb.put W _;have g5:(h4.put (h1.next+1) (Au TT 39 12 0 tm .exhausted none h1.next)).get (h.next+1)=some (.cells [.bool false] 4):=by rw[Ae _];exact u.c4
  have x5:Ext h (h4.put (h1.next+1) (Au TT 39 12 0 tm .exhausted none h1.next)):=x4.Ao (.inr a_) W _;have d5:(h4.put (h1.next+1) (Au TT 39 12 0 tm .exhausted none h1.next)).get h1.next=some (.deferred true):=by rw[Ae _];exact kd
  generalize h4.put (h1.next+1) (Au TT 39 12 0 tm .exhausted none h1.next)=G at p g5 x5 d5⊢;have l6:=p _ _ g5;refine Ok.Z7 g5 rfl rfl (by show 0<1;decide) ?_;have M:HB (G.put (h.next+1) (.cells ([EV.bool false].set 0 (.bool false)) 4)):=p.put l6 _;refine Ok.unwind (cj.2 ⟨by simp,cy⟩) (fun d hd=>by rw[aP]at hd;subst hd;rw[Ae _];exact d5) M fun U J _=>?_
  have g6:U.get (h.next+1)=some (.cells [.bool false] 4):=Aw.at J M (Af _ _ _) (by rw[aP];omega);rw[f U false g6];exact .ret ⟨rfl,(x5.Ao (.inr a_) l6 _).then J fun i Z a=>by rw[aP]at Z;omega,J.hb M⟩
end
end
section
theorem YS(A:Ca disp)(hK:10000<K)(M:C8 h m S F)(hb:HB h)(hd:7<=d)(z:Int)
 (u:∀h' T,Kp T h h'->(∀i,T i->¬F i)->HB h'->Ok (k (.bool (hasB S.ps S.g.D.toNat z)) h') Q):Ok (Al (Cq K (.ptr m 0) h) fun v h=>Al (Ag TT disp K d false 66 [v,I z] h) k) Q:=by
 obtain⟨lt,D,p,bl,ql,np,q,c,G,a⟩:=M.s;rw[Xw a.Jb,Aq];have f:=a.psz.nd;obtain⟨b1,b2,b3⟩:=a.psz.bd;subst f;refine(DJ (K:=K) A a.Gt hb a.psz.cap a_ a_ hd a_ z).Al ?_;rintro _ h' ⟨rfl,E,t⟩;refine u h' _ E (fun i J y=>?_) t;obtain⟨d,hd,rfl⟩:=J;exact(a.sub.2.2.2.2.2 d hd).2.2 y
theorem YT(hK:10000<K)(M:C8 h m S F)(hb:HB h)
 (t:∀h',Ext h h'->Ok (k (I (Z9 S.ps S.g.D.toNat)) h') Q):Ok (Al (Cq K (.ptr m 0) h) fun v h=>Al (I9 K v h) k) Q:=by
 obtain⟨lt,D,p,bl,ql,np,q,c,G,a⟩:=M.s;rw[Xw a.Jb,Aq];have f:=a.psz.nd;subst f;refine(DK (K:=K) a.Gt hb a.psz.small).Al ?_;rintro _ h' ⟨rfl,x⟩;exact t h' x
structure Qt(F:Nat->Prop)(h h':Ab):Prop where
 Ly:∃T,Kp T h h'/\∀i,T i->¬F i
 hb:HB h'
theorem Qt.refl(hb:HB h):Qt F h h:=⟨⟨fun _=>False,Kp.refl _,fun _ y=>y.elim⟩,hb⟩
theorem Qt.ext(x:Ext h h')(hb:HB h):Qt F h h':=⟨⟨fun _=>False,Ext.kp x,fun _ y=>y.elim⟩,x.hb hb⟩
theorem Qt.trans{a b c:Ab}(x:Qt F a b)(y:Qt F b c):Qt F a c:=by
 obtain⟨⟨T,k,t⟩,_⟩:=x;obtain⟨⟨U,l,u⟩,hb⟩:=y;refine⟨⟨fun i=>T i\/U i,Kp.trans ⟨k.chg.mono fun i=>.inl,k.same⟩ ⟨l.chg.mono fun i=>.inr,l.same⟩,fun i f=>f.elim (t i) (u i)⟩,hb⟩
theorem Ex.rd(C:Ex h B X F)(r:Qt F h h'):Gr h h' B X F X:=by
 obtain⟨⟨T,k,t⟩,_⟩:=r;exact C.YD k t
theorem Qt.next(r:Qt F h h'):h.next<=h'.next:=by
 obtain⟨⟨T,k,t⟩,_⟩:=r;exact k.chg.next
def Co.closed(X:Co)(z:Int):Bool:=decide (0<=D4 X.S.g z)&&(decide (¬z=X.S.a)&&(decide (¬z=X.S.b)&&(!X.S.Ja z&&(!js X.cur X.Cn z&&!hasB X.S.ps X.S.g.D.toNat z))))
theorem tt(A:Ca disp)(hK:10000<K)(C:Ex h B X F)(hd:8<=d){z:Int}(G:Vv z):Ok (Ag TT disp K d false 27 [.ptr B.c 0,I z] h) fun v h'=>v=.bool (X.closed z)/\Qt F h h':=by
 obtain⟨e,rfl⟩:=d_ d;rw[YU A a_];simp only[DL,Aa];rw[C.hH,YV C.M]
 try simp only[Aa]
 rw[C.hH];refine(P7 (K:=K) C.M C.hb).Al ?_;rintro _ h2 ⟨rfl,x2⟩;refine(Kb (K:=K) C.sm z G h2).Al ?_;rintro _ h3 ⟨rfl,x3⟩;have x:Ext h h3:=x2.trans x3;have f:=(C.gU x).C;have t:Qt F h h3:=Qt.ext x C.hb;unfold Co.closed;simp only[I,Ac];have ad:Fa (.tuple []) false=false/\Fa (.tuple []) true=false:=⟨rfl,rfl⟩;by_cases c1:0<=D4 X.S.g z
 case neg=>
  simp only[c1,aA,Aa,Ac,Us,Pb,Iw,Gn,Fj,bB];exact .ret ⟨rfl,t⟩
 simp only[c1,aB,Aa,Ac,Us,bF];by_cases c2:z=X.S.a
 ·simp only[c2,aC,aA,Aa,Ac,Pb,Iw,Gn,Fj,bB]
  exact .ret ⟨rfl,t⟩
 simp only[c2,aH,aB,Aa,Ac,Pb,bF];by_cases c3:z=X.S.b
 ·simp only[c3,aC,aA,Aa,Ac,Iw,Gn,Fj,bB]
  exact .ret ⟨rfl,t⟩
 simp only[c3,aH,aB,Aa,Ac,bF];rw[f.hH];refine(O0 (K:=K) f.M.s f.hb G).Al ?_;rintro _ h4 ⟨rfl,J⟩;have O:Qt F h h4:=t.trans (Qt.ext J f.hb);have p:=(f.gU J).C;cases X.S.Ja z with
 | true=>
  simp only[Aa,Ac,Iw,Gn,Fj,fB,bB];exact .ret ⟨rfl,O⟩
 | false=>
 simp only[Aa,Ac,Iw,dL,bF];rw[p.I6];have U:=DG (K:=K) A (d:=e) a_ a_ p.ar p.hb z;simp only[I]at U;refine U.Al ?_;rintro _ h5 ⟨rfl,V,_⟩;have W:Qt F h h5:=O.trans (Qt.ext V p.hb);have u:=(p.gU V).C;cases js X.cur X.Cn z with
 | true=>
  simp only[Aa,Ac,Gn,Fj,fB,bB];exact .ret ⟨rfl,W⟩
 | false=>
 simp only[Aa,Ac,Gn,dL,bF];rw[u.hH];refine YS A hK u.M u.hb (d:=e) a_ z fun h6 T k6 t6 E=>?_
 have Z:Qt F h h6:=W.trans ⟨⟨T,k6,fun i hi y=>t6 i hi (.inl y)⟩,E⟩;cases hasB X.S.ps X.S.g.D.toNat z with
 | true=>
  simp only[Aa,Ac,Fj,fB];exact .ret ⟨rfl,Z⟩
 | false=>
  simp only[Aa,Ac,Fj,dL];exact .ret ⟨rfl,Z⟩
def Co.dead(X:Co)(z:Int):Bool:=X.closed z&&decide (lP X.S.g X.es z=0)
theorem DM(A:Ca disp)(hK:10000<K)(C:Ex h B X F)(hd:9<=d){z:Int}(p:Vv z):Ok (Ag TT disp K d false 55 [.ptr B.c 0,I z] h) fun v h'=>v=.bool (X.dead z)/\Qt F h h':=by
 obtain⟨e,rfl⟩:=d_ d;rw[YW A a_];simp only[DN,Aa];refine(tt A hK C (d:=e) a_ p).Al ?_;rintro _ h2 ⟨rfl,a⟩;have f:=(C.rd a).C;unfold Co.dead;have t:Fa (.tuple []) false=false/\Fa (.tuple []) true=false:=⟨rfl,rfl⟩;cases X.closed z with
 | false=>
  simp only[Aa,Ac,Zd,bB];exact .ret ⟨rfl,a⟩
 | true=>
  simp only[Aa,Ac,bF];rw[f.jh,sR f.map];simp only[Aa,I,Ac,Zd];exact .ret ⟨rfl,a⟩
theorem Sm.jO(s:Sm g):3<=g.D*g.Z/\g.D*g.Z<=512:=by
 have:=s.d0;have:=s.d1;have:=s.z0;have:=s.z1;obtain⟨f,p⟩:=Rp (a:=g.D) (b:=g.Z) (A:=8) (B:=64);have:g.D*1<=g.D*g.Z:=eI a_ a_;omega
theorem qO(A:Ca disp)(C:Ex h B X F)(a:∀h',Ext h h'->Ok (k (I (X.S.g.D*X.S.g.Z)) h') Q):Ok (Al (Cf K (.ptr B.m 0) h) fun v h=>Al (Dd K v h) k) Q:=by
 refine(P7 (K:=K) C.M C.hb).Al ?_;rintro _ h2 ⟨rfl,f⟩;rw[Ot C.sm,Aq];exact a _ (f.Da _)
theorem YX(A:Ca disp)(hK:10000<K)(G:X.S.g.D*X.S.g.Z=n)(hd:9<=d):∀(f i:Nat) (h:Ab),n-i<f->i<=n->Ex h B X F ->
 Ok (Ol (Ag TT disp K d false) (Ag TT disp K d true) K f (.ptr B.c 0) (I n) (I i) h) fun v h'=>(∃b,v=.bool b)/\Qt F h h':=by
 intro f;induction f with
 | zero=>intro i h t;omega
 | succ f u=>
  intro i h t J C;have bd:=C.sm.jO;rw[Ol];simp only[I,Ac];by_cases y:i<n
  ·have:decide ((i:Int)<(n:Int))=true:=by simp;omega
   simp only[this,Aa,DO];refine(DM A hK C hd (z:=i) ⟨a_,a_⟩).Al ?_;rintro _ h2 ⟨rfl,p⟩;cases X.dead i with
   | true=>
    simp only[Aa];exact .ret ⟨⟨_,rfl⟩,p⟩
   | false=>
    simp only[Aa,DP,Ac];rw[Ci,show((i:Nat):Int)+1=((i+1:Nat):Int) from a_];refine(u (i+1) h2 a_ a_ (C.rd p).C).mono ?_;rintro v h3 ⟨a,E⟩;exact⟨a,p.trans E⟩
  ·have:decide ((i:Int)<(n:Int))=false:=by simp;omega
   simp only[this,Aa,DQ];exact .ret ⟨⟨_,rfl⟩,Qt.refl C.hb⟩
theorem YY(A:Ca disp)(hK:10000<K)(C:Ex h B X F)(hd:10<=d):Ok (Ag TT disp K d false 126 [.ptr B.c 0] h) fun v h'=>(∃b,v=.bool b)/\Qt F h h':=by
 obtain⟨e,rfl⟩:=d_ d;rw[YZ A a_];simp only[DR,Aa];rw[C.hH];refine qO A C fun h2 f=>?_
 have bd:=C.sm.jO;obtain⟨n,p⟩:=bL (show 0<=X.S.g.D*X.S.g.Z from a_);rw[p];refine(YX A hK p (d:=e) a_ K 0 h2 a_ a_ (C.gU f).C).mono ?_;rintro v h3 ⟨a,t⟩;exact⟨a,(Qt.ext f C.hb).trans t⟩
end
section
theorem Y2:(Eb TT 166 0).2.1 = [8,9]:=by kernel_rfl
def inB(z:Int)(x:Me):Bool:=decide (x.state=1)&&(decide (x.Am=z)||decide (x.Bw=z))
def ItS(N:Nat)(i:Nat):Prop:=N<=i/\i<N+4
structure mJ(h:Ab)(N:Nat)(tm:Ba)(l0:Nat)(stop:Bool):Prop where
 y:h.get N=some (.cells [.U5 l0] 77)
 d:h.get (N+2)=some (.deferred true)
 l:h.get (N+3)=some (Au TT 166 31 0 tm (if stop then .done else .ready) (if stop then some .ret else none) (N+2))
 lt:N+4<=h.next
structure qP(disp:Nat->Option FT)(K e l0 zq b ml ll:Nat)(g:Gm)(es:List Me)(z:Int)(N:Nat)(Inv:Nat->Ab->Prop)(Stop:Ab->Prop):Prop where
 frI:∀j h h',Inv j h->Aw (ItS N) h h'->Inv j h'
 frS:∀h h',Stop h->Aw (ItS N) h h'->Stop h'
 Dr:∀j (hj:j<es.length) h,inB z es[j]=true->Inv j h->N+4<=h.next->∃more h',Ag TT disp K e true l0 [I j] h=some (.bool more,h')/\Aw (fun i=>¬ItS N i) h h'/\(if more=true then Inv (j+1) h' else Stop h')
 skp:∀j (hj:j<es.length) h,inB z es[j]=false->Inv j h->Inv (j+1) h
 hbI:∀j h,Inv j h->HB h
 hbS:∀h,Stop h->HB h
 map:∀j h,Inv j h->K7 h b ml ll g es
 zon:∀j h,Inv j h->h.get zq=some (.cells [I z] 3)
section
variable (H:Ca disp){ll:Nat}{z:Int}{N:Nat}{Inv:Nat->Ab->Prop}(c:qP disp K e l0 zq b ml ll g es z N Inv Stop)(t2:tmp tm 2=.ptr zq 0)(t3:tmp tm 3=.ptr N 0)(lz:zq<N)(he:2<=e)
include H c t2 t3 lz he
theorem Y3(hj:j<es.length)(S0:mJ h N tm l0 false)(I0:Inv j h):
 ∃more h',Ag TT disp K (e+1) true (N+3) [I j,.agg es[j].cells] h=some (.bool more,h')/\mJ h' N tm l0 (!more)/\(if more=true then Inv (j+1) h' else Stop h'):=by
 have hg:=S0.l;simp only[aT,ak]at hg;have a:=hg;have hb:=c.hbI _ _ I0;have Dr:=c.Dr j hj;have skp:=c.skp j hj;generalize es[j]=x at Dr skp⊢;unfold Au at a;rw[Y2]at a;rw[Y' H he tm h (I j) _ a,t2,t3];simp only[DS,Aa];rw[mF (h:=h.new (.cells [EV.int .i64 0,.int .i64 0,.int .i64 0,.int .i64 0,.int .i64 0,.int .i64 0] 87)) (i:=h.next) (o:=0) (n:=6) (v:=.agg x.cells) (l:=[EV.int .i64 0,.int .i64 0,.int .i64 0,.int .i64 0,.int .i64 0,.int .i64 0]) (l':=x.cells) (t:=87) (Ad _ _) rfl rfl rfl];obtain⟨h3,e_,u,e3,_⟩:=nP h (.cells [EV.int .i64 0,.int .i64 0,.int .i64 0,.int .i64 0,.int .i64 0,.int .i64 0] 87) (.cells x.cells 87);rw[e_];have ab:=u.hb hb;have q0:=u.at hb hg;have l3:=ab _ _ q0;rw[T6 q0];have E:ItS N (N+3):=⟨a_,a_⟩;have c4:Aw (ItS N) h (h3.put (N+3) (Au TT 166 31 0 tm .busy none (N+2))):=(Ext.to (S:=ItS N) u).Ao (.inl E) l3 _;have r0:(h3.put (N+3) (Au TT 166 31 0 tm .busy none (N+2))).get (N+3)=some (Au TT 166 31 0 tm .busy none (N+2)):=Af _ _ _;have G:(h3.put (N+3) (Au TT 166 31 0 tm .busy none (N+2))).get N=some (.cells [.U5 l0] 77):=by rw[Ae _];exact u.at hb S0.y
 have rd:(h3.put (N+3) (Au TT 166 31 0 tm .busy none (N+2))).get (N+2)=some (.deferred true):=by rw[Ae _];exact u.at hb S0.d
 have V:(h3.put (N+3) (Au TT 166 31 0 tm .busy none (N+2))).get h.next=some (.cells x.cells 87):=by rw[Ae _ (by have:=S0.lt;omega)];exact e3
 have J:=c.frI _ _ _ I0 c4;have M:h.next<=(h3.put (N+3) (Au TT 166 31 0 tm .busy none (N+2))).next:=c4.next
 generalize h3.put (N+3) (Au TT 166 31 0 tm .busy none (N+2))=h4 at c4 r0 G rd V J M⊢;have f:=c.hbI _ _ J;have rz:=c.zon _ _ J;have l4:=f _ _ r0;have ad:=S0.lt;have aw:Fa (.tuple []) false=false/\Fa (.tuple []) true=false:=⟨rfl,rfl⟩;have no:inB z x=false->∃more h',Wh (N+3) true .ready none h4=some (.bool more,h')/\mJ h' N tm l0 (!more)/\(if more=true then Inv (j+1) h' else Stop h'):=fun hn=>by
  rw[Pf r0];refine⟨true,_,rfl,⟨by rw[Ae _];exact G,by rw[Ae _];exact rd,Af _ _ _,by rw[Ab.Nz];omega⟩,?_⟩;rw[aN rfl];exact c.frI _ _ _ (skp h4 hn J) ((Aw.refl (S:=ItS N) h4).Ao (.inl E) l4 _)
 have yes:inB z x=true->∃more h',Al (P0 (Ag TT disp K e false) (Ag TT disp K e true) (.U5 l0) [.int .i64 (j:Int)] h4) (fun ae h=>iX ae fun af=>Ju (Ag TT disp K e false) (Ag TT disp K e true) K (N+3) (.bool true) af h)=some (.bool more,h')/\mJ h' N tm l0 (!more)/\(if more=true then Inv (j+1) h' else Stop h'):=fun hy=>by
  obtain⟨more,W,e5,c5,i5⟩:=Dr h4 hy J (bN ad M);have hc:P0 (Ag TT disp K e false) (Ag TT disp K e true) (.U5 l0) [.int .i64 (j:Int)] h4=some (.bool more,W):=e5;rw[hc,Aq];have kp:∀k o,ItS N k->h4.get k=some o->W.get k=some o:=fun k o hk g=>c5.at f g fun y=>y hk
  have p:=kp _ _ E r0;have O:=kp N _ ⟨a_,a_⟩ G;have U:=kp (N+2) _ ⟨a_,a_⟩ rd;have ah:=c5.hb f;have l5:=ah _ _ p;have a2:=c5.next
  cases more with
  | true=>
   simp only[Aa,Ac,Ju];rw[Pf p];refine⟨true,_,rfl,⟨by rw[Ae _];exact O,by rw[Ae _];exact U,Af _ _ _,by rw[Ab.Nz];omega⟩,?_⟩;rw[aN rfl]at i5⊢;exact c.frI _ _ _ i5 ((Aw.refl (S:=ItS N) W).Ao (.inl E) l5 _)
  | false=>
   simp only[Aa,Ac,Ju];rw[Pf p];refine⟨false,_,rfl,⟨by rw[Ae _];exact O,by rw[Ae _];exact U,Af _ _ _,by rw[Ab.Nz];omega⟩,?_⟩;rw[aK (by simp)]at i5⊢;exact c.frS _ _ i5 ((Aw.refl (S:=ItS N) W).Ao (.inl E) l5 _)
 simp only[DT,Aa];rw[Ak V rfl (v:=I x.state) rfl];unfold inB at no yes;simp only[I,Ac];by_cases s1:x.state=1
 case neg=>
  simp only[s1,aA,Aa,Ac,Qa,Mg,L5,Ju];exact no (by rw[aS s1,bB])
 simp only[s1,aB,Aa,Ac];rw[Ak V rfl (v:=I x.Am) rfl,Ak rz rfl (v:=I z) rfl];simp only[I,Ac];by_cases z1:x.Am=z
 ·simp only[z1,aB,Aa,Ac,Qa,Mg,L5]
  rw[Ak G rfl (v:=.U5 l0) rfl];exact yes (by rw[aQ s1,aQ z1];rfl)
 simp only[z1,aA,Aa,Ac,Qa];rw[Ak V rfl (v:=I x.Bw) rfl,Ak rz rfl (v:=I z) rfl];simp only[I,Ac];by_cases Z:x.Bw=z
 ·simp only[Z,aB,Aa,Ac,Mg,L5]
  rw[Ak G rfl (v:=.U5 l0) rfl];exact yes (by rw[aQ s1,aQ Z,Bool.or_true];rfl)
 simp only[Z,aA,Aa,Ac,Mg,L5,Ju];exact no (by rw[aS z1,aS Z,Bool.or_false,eO])
theorem Y_(J:es.length<=256):∀(m i:Nat) (h:Ab),es.length-i<m->i<=es.length->mJ h N tm l0 false->Inv i h ->
 Ok (Ce (Ag TT disp K (e+1) false) (Ag TT disp K (e+1) true) K m (.U5 (N+3)) (.slice ml 0 es.length es.length false) (I es.length) (I i) h) fun _ h'=>∃stop,mJ h' N tm l0 stop/\(if stop=true then Stop h' else Inv es.length h')/\HB h':=by
 intro m;induction m with
 | zero=>intro i h hm;omega
 | succ m t=>
  intro i h hm M S0 f;have hb:=c.hbI _ _ f;have u:=(c.map _ _ f).row;rw[Ce];simp only[I,Ac,Aa];by_cases a:i<es.length
  ·have:decide ((i:Int)<(es.length:Int))=true:=by simp;omega
   simp only[this,Aa,F2];rw[Md a,bI,Cd u rfl (sQ es a)]
   try simp only[Aa]
   have rd:=fun h S0 f=>Y3 (K:=K) H c t2 t3 lz he a (h:=h) S0 f
   generalize es[i]=x at rd⊢;refine Ok.mk rfl rfl fun h3 p e3 _=>?_
   rw[Cd e3 rfl (Ai (n:=6) rfl)];have S3:mJ h3 N tm l0 false:=⟨p.at hb S0.y,p.at hb S0.d,p.at hb S0.l,bN S0.lt p.next⟩;obtain⟨more,h4,E,S4,i4⟩:=rd h3 S3 (c.frI _ _ _ f (Ext.to p));have G:P0 (Ag TT disp K (e+1) false) (Ag TT disp K (e+1) true) (.U5 (N+3)) [.int .i64 (i:Int),.agg x.cells] h3=some (.bool more,h4):=E;rw[G,Aq];cases more with
   | false=>
    simp only[Aa];rw[aK (by simp)]at i4;refine .ret ⟨true,S4,by rw[aN rfl];exact i4,?_⟩;exact c.hbS _ i4
   | true=>
    simp only[Aa,Fy,Ac];rw[aN rfl]at i4;rw[Ci,show((i:Nat):Int)+1=((i+1:Nat):Int) from a_];exact t (i+1) h4 a_ a_ S4 i4
  ·have:decide ((i:Int)<(es.length:Int))=false:=by simp;omega
   have:i=es.length:=a_
   subst this;simp only[Aa,aA,Int.lt_irrefl];exact .ret ⟨false,S0,by rw[aK (by simp)];exact f,hb⟩
end
theorem ZC(H:Ca disp)(hK:1000<K){O ll:Nat}{z:Int}{Inv:Nat->Ab->Prop}(c:qP disp K e l0 zq b ml ll g es z h0.next Inv Stop)(he:2<=e)(s:Sm g)(gv:h0.get O=some (.cells [.ptr b 0] 55))(E:Inv 0 h0):
 Ok (Ag TT disp K (e+3) false 166 [.U5 l0,.ptr O 0,.ptr zq 0] h0) fun v h'=>v=.tuple []/\(Inv es.length h'\/Stop h'):=by
 have:=s.b0;have:=s.b1;have hb:=c.hbI _ _ E;have mp:=c.map _ _ E;have gz:=c.zon _ _ E;have hlen:=mp.len;have lz:=hb _ _ gz;have lm:=hb _ _ mp.row;rw[ZD H a_];simp only[DU,dr];rw[ZE rfl];obtain⟨h1,e_,G,y1,n1⟩:=nW h0 (.cells (EV.U5 l0).cells 77);rw[e_];have p:=G.hb hb;rw[Ak (G.at hb gv) rfl (v:=.ptr b 0) rfl];simp only[Xh,Aa,Fg];rw[Ak (G.at hb mp.map) rfl (v:=.slice ml 0 g.B.toNat g.B.toNat false) rfl,<-hlen];simp only[Aa];have J:Ext h1 (h1.new (.cells [.slice ml 0 es.length es.length false] 145)):=Aw.new _ _;have q2:(h1.new (.cells [.slice ml 0 es.length es.length false] 145)).get h1.next=some (.cells [.slice ml 0 es.length es.length false] 145):=Ad _ _
 have n2:(h1.new (.cells [.slice ml 0 es.length es.length false] 145)).next=h0.next+2:=by rw[Ab.Dh,n1]
 generalize h1.new (.cells [.slice ml 0 es.length es.length false] 145)=h2 at J q2 n2⊢;have t:=J.hb p;generalize a:(((((Tr.nil.put 0 (some (EV.U5 l0))).put 1 (some (EV.ptr O 0))).put 2 (some (EV.ptr zq 0))).put 3 (some (EV.ptr h0.next 0))).put 6 (some (EV.ptr b 0))).put 7 (some (EV.func 201 [] [EV.ptr h1.next 0]))=tm;have t2:tmp tm 2=.ptr zq 0:=by rw[<-a];simp only[F1,reduceIte,Nat.reduceEqDiff]
 have t3:tmp tm 3=.ptr h0.next 0:=by rw[<-a];simp only[F1,reduceIte,Nat.reduceEqDiff]
 clear a;refine Ok.range ?_;have u:Ext h2 (Bn TT 166 31 0 tm h2):=Ga;have U:(Bn TT 166 31 0 tm h2).get h2.next=some (.deferred true):=Gw
 have V:(Bn TT 166 31 0 tm h2).get (h2.next+1)=some (Au TT 166 31 0 tm .ready none h2.next):=F3;have n3:(Bn TT 166 31 0 tm h2).next=h2.next+2:=rfl
 generalize Bn TT 166 31 0 tm h2=h3 at u U V n3⊢;have aj:=u.hb t;rw[n2]at U V n3⊢;have W:Ext h0 h3:=(G.trans J).trans u;rw[Jy H (cO _)];simp only[Gz,dr];rw[Ak (u.at t q2) rfl (v:=.slice ml 0 es.length es.length false) rfl];simp only[Aa];have S3:mJ h3 h0.next tm l0 false:=⟨Ext.at (J.trans u) p y1,U,V,a_⟩
 have I3:=c.frI _ _ _ E (Ext.to W);refine(Y_ (K:=K) H c t2 t3 lz he a_ K 0 h3 a_ a_ S3 I3).mono ?_;rintro _ h4 ⟨stop,S4,i4,f⟩;have lp:=S4.l;have M:=f _ _ lp;have ao:=S4.lt;have sd:ItS h0.next (h0.next+2):=⟨a_,a_⟩
 have sl:ItS h0.next (h0.next+3):=⟨a_,a_⟩
 cases stop with
 | true=>
  simp only[bM]at lp i4;refine .inr ⟨lp,?_⟩;have d5:(h4.put (h0.next+2+1) (Au TT 166 31 0 tm .exhausted (some .ret) (h0.next+2))).get (h0.next+2)=some (.deferred true):=by rw[Ae _];exact S4.d
  refine Ok.unwind (cj.2 ⟨by simp,cy⟩) (fun d hd=>by rw[aP]at hd;subst hd;exact d5) (f.put M _) fun h6 Z _=>?_
  refine .ret ⟨rfl,.inr (c.frS _ _ i4 (((Aw.refl (S:=ItS h0.next) h4).Ao (.inl sl) M _).trans (Z.mono fun i y=>by rw[aP]at y;subst y;exact sd)))⟩
 | false=>
  simp only[aT,ak]at lp i4;refine .inl ⟨lp,?_⟩;have d5:(h4.put (h0.next+2+1) (Au TT 166 31 0 tm .exhausted none (h0.next+2))).get (h0.next+2)=some (.deferred true):=by rw[Ae _];exact S4.d
  refine Ok.unwind (cj.2 ⟨by simp,cy⟩) (fun d hd=>by rw[aP]at hd;subst hd;exact d5) (f.put M _) fun h6 Z _=>?_
  refine .ret ⟨rfl,.inl (c.frI _ _ _ i4 (((Aw.refl (S:=ItS h0.next) h4).Ao (.inl sl) M _).trans (Z.mono fun i y=>by rw[aP]at y;subst y;exact sd)))⟩
end
section
theorem Qt.jt(q:Qt F h0 h)(c:Aw T h h')(t:∀i,T i->h0.next<=i):Qt F h0 h':=by
 obtain⟨⟨U,k,u⟩,hb⟩:=q;exact⟨⟨U,k.tu c t,u⟩,c.hb hb⟩
theorem Ok.pw(H:Ca disp)(hK:1000<K){a ll:Nat}{z:Int}{Inv:Nat->Ab->Prop}{fn:Nat}{ds:List Nat}{k:Ab->List Nat->R}{ret:Ab->List Nat->R}
 (c:qP disp K e (h.next+1) zq b ml ll g es z (h.next+2) Inv Stop) (he:2<=e) (s:Sm g) (f:h.get a=some (.cells [.ptr b 0] 55)) (hb:HB h) (p:Inv 0 (Bn TT fn n i tm h))
 (t:∀h',Inv es.length h'->h'.get (h.next+1)=some (Au TT fn n i tm .ready none h.next)/\Ok (k (h'.put (h.next+1) (Au TT fn n i tm .exhausted none h.next)) (h.next::ds)) Q)
 (u:∀h',Stop h'->h'.get (h.next+1)=some (Au TT fn n i tm .done (some .ret) h.next)/\Ok (ret (h'.put (h.next+1) (Au TT fn n i tm .exhausted (some .ret) h.next)) (h.next::ds)) Q) :
 Ok (P9 (Ag TT disp K (e+3) false) TT fn n i (.func 166 [] [.ptr a 0,.ptr zq 0]) tm h ds k ex ret) Q:=by
 refine Ok.range ((ZC (K:=K) H hK (h0:=Bn TT fn n i tm h) c he s (Ga.at hb f) p).mono ?_);rintro _ h' ⟨rfl,y|y⟩
 ·exact .inl (t h' y)
 ·exact .inr (u h' y)
def nQ(S:Mi)(x:Me):Bool:=!S.Ja x.Am&&!S.Ja x.Bw
def kJ(S:Mi)(z:Int)(es:List Me):Bool:=es.all fun x=>!inB z x||nQ S x
theorem DV{z:Int}(hj:j<es.length):kJ S z (es.take (j+1))=(kJ S z (es.take j)&&(!inB z es[j]||nQ S es[j])):=by
 unfold kJ;rw[List.take_add_one,List.all_append,aF hj];simp
theorem ZF{z:Int}(hj:j<es.length)(a:inB z es[j]=true)(f:nQ S es[j]=false):kJ S z es=false:=by
 unfold kJ;rw[List.all_eq_false];exact⟨es[j],aZ hj,by rw[a,f];simp⟩
structure lY(F:Nat->Prop)(h0 h:Ab)(l0:Nat)(tm:Ba)(B:Cb)(zq:Nat)(z:Int)(stop:Bool):Prop where
 q:Qt F h0 h
 lp:h.get l0=some (Au TT 167 40 0 tm (if stop then .done else .ready) (if stop then some .ret else none) (l0-1))
 dd:h.get (l0-1)=some (.deferred true)
 c2:h.get h0.next=some (.cells [.ptr B.c 0] 26)
 c4:h.get (h0.next+1)=some (.cells [.bool false] 4)
 zq:h.get zq=some (.cells [I z] 3)
theorem lY.chg{z:Int}{stop:Bool}(w:lY F h0 h l0 tm B zq z stop)(c:Aw T h h')(t:∀i,T i->l0<i)(l:h0.next+1<l0)(lz:zq<l0):lY F h0 h' l0 tm B zq z stop:=by
 have kp:∀i o,h.get i=some o->i<=l0->h'.get i=some o:=fun i o g a=>c.at w.q.hb g fun y=>by have:=t i y;omega
 exact⟨w.q.jt c fun i a=>by have:=t i a;omega,kp _ _ w.lp (aD _),kp _ _ w.dd a_,kp _ _ w.c2 a_,kp _ _ w.c4 a_,kp _ _ w.zq a_⟩
theorem ZG:(Eb TT 167 0).2.1 = [14]:=by kernel_rfl
theorem ZH(hj:j<es.length):h_ es (j:Int)=(es[j],0):=by
 unfold h_;rw[aN ⟨a_,a_⟩,bJ,aF hj];rfl
theorem wJ(s:Sm g){x:Me}(h:meR g x=true):Vv x.Am/\Vv x.Bw:=by
 obtain⟨_,a,b,_⟩:=wc s h;exact⟨⟨a_,a_⟩,⟨a_,a_⟩⟩
section
variable (A:Ca disp)(hK:10000<K)(C:Ex h0 B X F)
include A C
theorem ZI{z:Int}(t2:tmp tm 2=.ptr h0.next 0)(t4:tmp tm 4=.ptr (h0.next+1) 0)(l:h0.next+1<l0)(lz:zq<l0)(nz:h0.next+1<zq)(he:4<=e)(hj:j<X.es.length)(E:lY F h0 h l0 tm B zq z false):
 Ok (Ag TT disp K e true l0 [I j] h) fun v h'=>v=.bool (nQ X.S X.es[j])/\Aw (fun i=>i=l0\/i=h0.next+1) h h'/\lY F h0 h' l0 tm B zq z (!nQ X.S X.es[j]):=by
 obtain⟨e,rfl⟩:=d_ e;have hg:=E.lp;simp only[aT,ak]at hg;have G:=hg;unfold Au at G;rw[ZG]at G;rw[ZJ A a_ tm h (I j) G,t2,t4];have hb:=E.q.hb;have V:=hb _ _ hg;simp only[DW,T6 hg,Yi,dr];have n4:l0≠h0.next+1:=a_
 have c1:Aw (fun i=>i=l0\/i=h0.next+1) h (h.put l0 (Au TT 167 40 0 tm .busy none (l0-1))):=(Aw.refl h).Ao (.inl (.inl rfl)) V _;have g0:(h.put l0 (Au TT 167 40 0 tm .busy none (l0-1))).get l0=some (Au TT 167 40 0 tm .busy none (l0-1)):=Af _ _ _;have kp:∀i o,h.get i=some o->i≠l0->(h.put l0 (Au TT 167 40 0 tm .busy none (l0-1))).get i=some o:=fun i o g W=>by rw[Ae _ (cn W)];exact g
 have gd:=kp _ _ E.dd a_;have J:=kp _ _ E.c2 a_;have g4:=kp _ _ E.c4 a_;have gz:=kp _ _ E.zq a_;have q1:Qt F h0 (h.put l0 (Au TT 167 40 0 tm .busy none (l0-1))):=E.q.jt ((Aw.refl (S:=fun i=>i=l0) h).Ao (.inl rfl) V _) fun i W=>a_
 clear kp;generalize h.put l0 (Au TT 167 40 0 tm .busy none (l0-1))=h1 at c1 g0 gd J g4 gz q1⊢;have t:=(C.rd q1).C;rw[Ak J rfl (v:=.ptr B.c 0) rfl];simp only[Aa];rw[t.jh];refine(pa (K:=K) C.sm t.map t.hb j).Al ?_;rintro _ h2 ⟨rfl,x2⟩;rw[ZH hj];have hx:=C.map.ok _ (aZ hj);obtain⟨r1,r2⟩:=wJ C.sm hx;unfold nQ;generalize X.es[j]=x at r1 r2⊢;simp only[Aa];have ai:=x2.hb t.hb;refine Ok.mk rfl rfl fun h3 x3 e3 _=>?_
 have O:=x2.trans x3;have a:=x3.hb ai;have Z:∀{i o},h1.get i=some o->h3.get i=some o:=fun g=>Ext.at O t.hb g
 have C3:=(t.gU O).C;have l2:=a _ _ (Z J);have lc:=a _ _ C3.core;have le:=a _ _ e3;rw[I6 l2,Ak (Z J) rfl (v:=.ptr B.c 0) rfl];simp only[Aa,Ar];rw[I6 lc,C3.hH];simp only[Aa,Ar];rw[I6 le,Ak e3 rfl (v:=I x.Am) rfl];simp only[Aa,Ar];refine Ok.bE (O0 (K:=K) (C3.M.same (iG.lift _)).s (Cz a) r1) (fun _ _ p=>p.2) ?_;rintro _ a7 h4 ⟨rfl,_⟩ _ x4;have ao:=x4.hb a;have u:=O.trans x4;have fin:∀(b:Bool) (y:Ab),Ext h1 y->Ok (Dj (Ag TT disp K e false) (Ag TT disp K e true) K l0 h3.next ⟨0,[],[],[],[]⟩ (.ptr (h0.next+1) 0) (.bool (!b)) (.bool (!b)) y) fun v h'=>v=.bool b/\Aw (fun i=>i=l0\/i=h0.next+1) h h'/\lY F h0 h' l0 tm B zq z (!b):=fun b y U=>by
  have aa:=U.hb t.hb;have f:∀{i o},h1.get i=some o->y.get i=some o:=fun g=>Ext.at U t.hb g
  have q5:=q1.trans (Qt.ext U t.hb);have l5:=aa _ _ (f g0);have ab:=aa _ _ (f g4);have c5:=c1.trans (Ext.to U);cases b with
  | true=>
   simp only[Dj,fB,Aa,Ac];rw[Pf (f g0)];exact .ret ⟨rfl,c5.Ao (.inl (.inl rfl)) l5 _,q5.jt ((Aw.refl (S:=fun i=>i=l0) y).Ao (.inl rfl) l5 _) (fun i W=>by omega),Af _ _ _,by rw[Ae _];exact f gd,by rw[Ae _];exact f J,by rw[Ae _];exact f g4,by rw[Ae _];exact f gz⟩
  | false=>
   simp only[Dj,dL,Aa,Ac];rw[mF (o:=0) (n:=1) (v:=.bool false) (l':=[.bool false]) (f g4) rfl rfl rfl,Pf (by rw[Ae _ (cn n4)];exact f g0)];exact .ret ⟨rfl,(c5.Ao (.inl (.inr rfl)) ab _).Ao (.inl (.inl rfl)) l5 _,q5.jt (((Aw.refl (S:=fun i=>h0.next<=i) y).Ao (.inl a_) ab _).Ao (.inl a_) l5 _) (fun i W=>W),Af _ _ _,
    by rw[Ae _,Ae _];exact f gd,by rw[Ae _,Ae _];exact f J,by rw[Ae _];exact Af _ _ _,by rw[Ae _,Ae _];exact f gz⟩
 cases X.S.Ja x.Am with
 | true=>
  have:=fin false h4 u;simp only[Dj,dL,Aa,Ac]at this;simp only[Aa,Ac,Dj,fB,bB];exact this
 | false=>
 simp only[Aa,Ac,dL,bF];have aq:∀{i o},h1.get i=some o->h4.get i=some o:=fun g=>Ext.at u t.hb g
 have C4:=(t.gU u).C;rw[I6 l2,Ak (aq J) rfl (v:=.ptr B.c 0) rfl];simp only[Aa,Ar];rw[I6 lc,C4.hH];simp only[Aa,Ar];rw[I6 le,Ak (x4.at a e3) rfl (v:=I x.Bw) rfl];simp only[Aa,Ar];refine Ok.bE (O0 (K:=K) (C4.M.same (iG.lift _)).s (Cz ao) r2) (fun _ _ p=>p.2) ?_;rintro _ a8 y ⟨rfl,_⟩ _ U;have ad:=u.trans U;cases X.S.Ja x.Bw with
 | true=>
  have:=fin false y ad;simp only[Dj,dL,Aa,Ac]at this;simp only[Aa,Ac,Dj,fB];exact this
 | false=>
  have:=fin true y ad;simp only[Dj,fB,Aa,Ac]at this;simp only[Aa,Ac,Dj,dL];exact this
include hK
theorem ZK(hd:8<=d)(z:Int):Ok (Ag TT disp K d false 167 [.ptr B.c 0,I z] h0) fun v h'=>v=.bool (kJ X.S z X.es)/\Qt F h0 h':=by
 obtain⟨e,rfl⟩:∃k,d=k+3+1:=⟨d-4,a_⟩;rw[ZL A a_];simp only[DY,Aa];have hb:=C.hb;have O:Ext h0 ((h0.new (.cells [.ptr B.c 0] 26)).new (.cells [.bool false] 4)):=(Aw.new _ _).Da _;have G:((h0.new (.cells [.ptr B.c 0] 26)).new (.cells [.bool false] 4)).next=h0.next+2:=rfl
 have W:((h0.new (.cells [.ptr B.c 0] 26)).new (.cells [.bool false] 4)).get h0.next=some (.cells [.ptr B.c 0] 26):=by rw[Az _ (aO _)];exact Ad _ _
 have g4:((h0.new (.cells [.ptr B.c 0] 26)).new (.cells [.bool false] 4)).get (h0.next+1)=some (.cells [.bool false] 4):=Ad _ _;rw[show(h0.new (.cells [.ptr B.c 0] 26)).next=h0.next+1 from rfl];generalize (h0.new (.cells [.ptr B.c 0] 26)).new (.cells [.bool false] 4)=h1 at O G W g4⊢;have p:=O.hb hb;have C1:=(C.gU O).C;rw[Ak W rfl (v:=.ptr B.c 0) rfl];simp only[Aa];rw[C1.jh];simp only[qQ,Aa,I];have J:Ext h1 ((h1.new (.cells [.ptr B.b 0] 55)).new (.cells [.int .i64 z] 3)):=(Aw.new _ _).Da _;have n2:((h1.new (.cells [.ptr B.b 0] 55)).new (.cells [.int .i64 z] 3)).next=h0.next+4:=by rw[Ab.Dh,Ab.Dh,G]
 have gv:((h1.new (.cells [.ptr B.b 0] 55)).new (.cells [.int .i64 z] 3)).get (h0.next+2)=some (.cells [.ptr B.b 0] 55):=by rw[<-G,Az _ (aO _)];exact Ad _ _
 have gz:((h1.new (.cells [.ptr B.b 0] 55)).new (.cells [.int .i64 z] 3)).get (h0.next+3)=some (.cells [I z] 3):=by rw[show h0.next+3=(h1.new (.cells [.ptr B.b 0] 55)).next by rw[Ab.Dh,G]];exact Ad _ _
 rw[show(h1.new (.cells [.ptr B.b 0] 55)).next=h0.next+3 by rw[Ab.Dh,G],G];generalize (h1.new (.cells [.ptr B.b 0] 55)).new (.cells [.int .i64 z] 3)=h2 at J n2 gv gz⊢;have f:=J.hb p;have Z:Ext h0 h2:=O.trans J;generalize t:(((((((((Tr.nil.put 0 (some (EV.ptr B.c 0))).put 1 (some (EV.int .i64 z))).put 2 (some (EV.ptr h0.next 0))).put 4 (some (EV.ptr (h0.next+1) 0))).put 8 (some (EV.ptr B.c 0))).put 9 (some (EV.ptr B.c 0))).put 10 (some (EV.ptr B.c 2))).put 11 (some (EV.ptr B.b 0))).put 12 (some (EV.int .i64 z))).put 13 (some (EV.func 166 [] [EV.ptr (h0.next+2) 0,EV.ptr (h0.next+3) 0]))=tm;have t2:tmp tm 2=.ptr h0.next 0:=by rw[<-t];simp only[F1,reduceIte,Nat.reduceEqDiff]
 have t4:tmp tm 4=.ptr (h0.next+1) 0:=by rw[<-t];simp only[F1,reduceIte,Nat.reduceEqDiff]
 clear t;have nl:h2.next+1=h0.next+5:=a_
 have hlen:=C.map.len;have cl:qP disp K e (h2.next+1) (h0.next+3) B.b B.ml B.ll X.S.g X.es z (h2.next+2) (fun j h=>lY F h0 h (h2.next+1) tm B (h0.next+3) z false/\kJ X.S z (X.es.take j)=true) (fun h=>lY F h0 h (h2.next+1) tm B (h0.next+3) z true/\kJ X.S z X.es=false):=by
  refine⟨fun j h h' w c=>⟨w.1.chg c (fun i a=>by have:=a.1;omega) a_ a_,w.2⟩,fun h h' w c=>⟨w.1.chg c (fun i a=>by have:=a.1;omega) a_ a_,w.2⟩,fun j hj h a w _=>?_,fun j hj h a w=>⟨w.1,?_⟩,fun j h w=>w.1.q.hb,fun h w=>w.1.q.hb,fun j h w=>(C.rd w.1.q).C.map,fun j h w=>w.1.zq⟩
  ·obtain⟨v,h',e1,rfl,c,w'⟩:=ZI (K:=K) A C t2 t4 (l0:=h2.next+1) (zq:=h0.next+3) a_ a_ a_ (e:=e) a_ hj w.1
   refine⟨_,h',e1,c.mono fun i a y=>?_,?_⟩
   ·have:=y.1;omega
   ·cases U:nQ X.S X.es[j]with
    | true=>
     rw[aN rfl];rw[U]at w';exact⟨w',by rw[DV hj,w.2,U];simp⟩
    | false=>
     rw[aK (by simp)];rw[U]at w';exact⟨w',ZF hj a U⟩
  ·rw[DV hj,w.2,a];rfl
 have V:Ext h2 (Bn TT 167 40 0 tm h2):=Ga;have I0:lY F h0 (Bn TT 167 40 0 tm h2) (h2.next+1) tm B (h0.next+3) z false:=⟨Qt.ext (Z.trans V) hb,F3,Gw,V.at f (J.at p W),V.at f (J.at p g4),V.at f gz⟩;refine Ok.pw (K:=K) A a_ cl a_ C.sm gv f ⟨I0,rfl⟩ (fun h3 w=>⟨w.1.lp,?_⟩) fun h3 w=>⟨w.1.lp,?_⟩
 ·have w2:=w.2
  rw[cF]at w2;rw[w2];have u:=w.1.q.hb;have l3:=u _ _ w.1.lp;have E:Qt F h0 (h3.put (h2.next+1) (Au TT 167 40 0 tm .exhausted none h2.next)):=w.1.q.jt ((Aw.refl (S:=fun i=>i=h2.next+1) h3).Ao (.inl rfl) l3 _) fun i a=>a_
  have g4:(h3.put (h2.next+1) (Au TT 167 40 0 tm .exhausted none h2.next)).get (h0.next+1)=some (.cells [.bool false] 4):=by rw[Ae _];exact w.1.c4
  have gd:(h3.put (h2.next+1) (Au TT 167 40 0 tm .exhausted none h2.next)).get h2.next=some (.deferred true):=by rw[Ae _];exact w.1.dd
  generalize h3.put (h2.next+1) (Au TT 167 40 0 tm .exhausted none h2.next)=h4 at E g4 gd⊢;have l4:=E.hb _ _ g4;simp only[Wi,dr];refine Ok.Z7 g4 rfl rfl (by show 0<1;decide) ?_;have q5:Qt F h0 (h4.put (h0.next+1) (.cells ([EV.bool false].set 0 (.bool true)) 4)):=E.jt ((Aw.refl (S:=fun i=>i=h0.next+1) h4).Ao (.inl rfl) l4 _) fun i a=>a_
  refine Ok.unwind (cj.2 ⟨by simp,cy⟩) (fun d hd=>by rw[aP]at hd;subst hd;rw[Ae _];exact gd) q5.hb fun h6 M _=>?_
  have g6:h6.get (h0.next+1)=some (.cells [.bool true] 4):=Aw.at M q5.hb (Af _ _ _) (by rw[aP];omega);rw[pj g6];exact .ret ⟨rfl,q5.jt M fun i a=>by rw[aP]at a;omega⟩
 ·rw[w.2]
  have u:=w.1.q.hb;have l3:=u _ _ w.1.lp;have E:Qt F h0 (h3.put (h2.next+1) (Au TT 167 40 0 tm .exhausted (some .ret) h2.next)):=w.1.q.jt ((Aw.refl (S:=fun i=>i=h2.next+1) h3).Ao (.inl rfl) l3 _) fun i a=>a_
  refine Ok.unwind (cj.2 ⟨by simp,cy⟩) (fun d hd=>by rw[aP]at hd;subst hd;rw[Ae _];exact w.1.dd) E.hb fun h6 M _=>?_
  have g6:h6.get (h0.next+1)=some (.cells [.bool false] 4):=Aw.at M E.hb (by rw[Ae _];exact w.1.c4) (by rw[aP];omega);rw[pj g6];exact .ret ⟨rfl,E.jt M fun i a=>by rw[aP]at a;omega⟩
end
end
section
def jD(z:Int)(es:List Me)(j:Nat):List Nat:=(List.range j).filter fun i=>inB z ((es[i]?).getD (Me.nil 0))
theorem ZM {z:Int}(hj:j<es.length)(h:inB z es[j]=true):jD z es (j+1)=jD z es j++[j]:=by
 unfold jD;rw[cu,eV,fU,aF hj];simp[h]
theorem ZN {z:Int}(hj:j<es.length)(h:inB z es[j]=false):jD z es (j+1)=jD z es j:=by
 unfold jD;rw[cu,eV,fU,aF hj];simp[h]
theorem DZ(z:Int)(es:List Me)(j:Nat):(jD z es j).length<=j:=by
 unfold jD;have:=eW (fun i=>inB z ((es[i]?).getD (Me.nil 0))) (List.range j);simpa using this
def nI(i:Nat):EV:=I (i:Int)
structure nS(F:Nat->Prop)(h0 h:Ab)(l0:Nat)(tm:Ba)(zq:Nat)(z:Int)(L:List Nat):Prop where
 q:Qt F h0 h
 lp:h.get l0=some (Au TT 85 19 0 tm .ready none (l0-1))
 dd:h.get (l0-1)=some (.deferred true)
 zq:h.get zq=some (.cells [I z] 3)
 row:∃s qr,h.get h0.next=some (.cells [s] 30)/\Bu h s qr 3 1 L.length (L.map nI)/\(0<L.length->l0+5<=qr)
theorem nS.chg{z:Int}{L:List Nat}(w:nS F h0 h l0 tm zq z L)(c:Aw T h h')(t:∀i,T i->l0<i/\i<l0+5)(l:h0.next<l0)(lz:zq<l0):nS F h0 h' l0 tm zq z L:=by
 have kp:∀i o,h.get i=some o->i<=l0->h'.get i=some o:=fun i o g a=>c.at w.q.hb g fun y=>by have:=t i y;omega
 obtain⟨s,qr,u,f,p⟩:=w.row;exact⟨w.q.jt c fun i a=>by have:=t i a;omega,kp _ _ w.lp (aD _),kp _ _ w.dd a_,kp _ _ w.zq a_,s,qr,kp _ _ u a_,f.frame fun y=>c.get _ (w.q.hb _ _ (f.block y)) fun E=>by have:=t _ E;have:=p y;omega,p⟩
theorem ZO:(Eb TT 85 0).2.1 = [13]:=by kernel_rfl
section
variable (A:Ca disp)(hK:10000<K)
include A
theorem ZP{z:Int}(t5:tmp tm 5=.ptr h0.next 0)(l:h0.next+1<l0)(lz:zq<l0)(nz:h0.next<zq)(he:2<=e){L:List Nat}(hL:L.length<=256)(nx:l0+5<=h.next)(t:nS F h0 h l0 tm zq z L):
 Ok (Ag TT disp K e true l0 [I j] h) fun v h'=>v=.bool true/\Aw (fun i=>¬(l0<i/\i<l0+5)) h h'/\nS F h0 h' l0 tm zq z (L++[j]):=by
 obtain⟨e,rfl⟩:=d_ e;have U:=t.lp;have p:=U;unfold Au at p;rw[ZO]at p;rw[ZQ A a_ tm h (I j) p,t5];have hb:=t.q.hb;have V:=hb _ _ U;simp only[D_,T6 U,Wu,dr];obtain⟨s,qr,r1,r2,O⟩:=t.row;have c1:Aw (fun i=>i=l0) h (h.put l0 (Au TT 85 19 0 tm .busy none (l0-1))):=(Aw.refl (S:=fun i=>i=l0) h).Ao (.inl rfl) V _;have g0:(h.put l0 (Au TT 85 19 0 tm .busy none (l0-1))).get l0=some (Au TT 85 19 0 tm .busy none (l0-1)):=Af _ _ _;have kp:∀i o,h.get i=some o->i≠l0->(h.put l0 (Au TT 85 19 0 tm .busy none (l0-1))).get i=some o:=fun i o g f=>by rw[Ae _ (cn f)];exact g
 have gd:=kp _ _ t.dd a_;have W:=kp _ _ r1 a_;have gz:=kp _ _ t.zq a_;have rr:=r2.frame (h':=h.put l0 (Au TT 85 19 0 tm .busy none (l0-1))) fun y=>Ae _ (by have:=O y;omega)
 have Z:(h.put l0 (Au TT 85 19 0 tm .busy none (l0-1))).next=h.next:=rfl
 have u:Qt F h0 (h.put l0 (Au TT 85 19 0 tm .busy none (l0-1))):=t.q.jt c1 fun i f=>a_
 clear kp;generalize h.put l0 (Au TT 85 19 0 tm .busy none (l0-1))=h1 at c1 g0 gd W gz rr Z u⊢;rw[Ak W rfl (v:=s) rfl];refine Kv (z:=[.int .i64 0]) (v:=I j) rr u.hb rfl rfl rfl a_ a_ fun h2 E af c2=>?_
 have G:=c2.hb u.hb;have J:∀i o,h1.get i=some o->i<=l0->h2.get i=some o:=fun i o g f=>c2.at u.hb g fun y=>by have:=O y.1;omega
 have M:=J _ _ W a_;have l5:=G _ _ M;have aa:=G _ _ (J _ _ g0 (aD _));refine Ok.Z7 M rfl rfl (by show 0<1;decide) ?_;rw[Pf (by rw[Ae _];exact J _ _ g0 (aD _))];have c3:Aw (fun i=>i=l0\/i=h0.next) h2 ((h2.put h0.next (.cells ([s].set 0 (.slice (h1.next+1) 0 (L.length+1) (L.length+1) true)) 30)).put l0 (Au TT 85 19 0 tm .ready none (l0-1))):=((Aw.refl h2).Ao (.inl (.inr rfl)) l5 _).Ao (.inl (.inl rfl)) aa _;have same:∀i,i≠l0->i≠h0.next->((h2.put h0.next (.cells ([s].set 0 (.slice (h1.next+1) 0 (L.length+1) (L.length+1) true)) 30)).put l0 (Au TT 85 19 0 tm .ready none (l0-1))).get i=h2.get i:=fun i a b=>by rw[Ae _ (cn a),Ae _ (cn b)]
 refine .ret ⟨rfl,?_,?_,?_,?_,?_,?_⟩
 ·refine((c1.mono fun i f y=>?_).trans (c2.mono fun i f y=>?_)).trans (c3.mono fun i f y=>?_)
  ·omega
  ·have:=O f.1;omega
  ·omega
 ·refine(u.jt c2 fun i f=>?_).jt c3 fun i f=>a_
  have:=O f.1;omega
 ·exact Af _ _ _
 ·rw[same _ a_ a_];exact J _ _ gd a_
 ·rw[same _ a_ a_];exact J _ _ gz a_
 ·refine⟨.slice (h1.next+1) 0 (L.length+1) (L.length+1) true,h1.next+1,?_,?_,fun _=>a_⟩
  ·rw[Ae _];exact Af _ _ _
  ·rw[aE,bZ]
   exact Bu.frame E fun _=>same _ a_ a_
include hK
theorem ZR(C:Ex h0 B X F)(hd:8<=d)(z:Int):Ok (Ag TT disp K d false 85 [.ptr B.c 0,I z] h0) fun v h'=>Qt F h0 h'/\∃qr,Bu h' v qr 3 1 (jD z X.es X.es.length).length ((jD z X.es X.es.length).map nI)/\(0<(jD z X.es X.es.length).length->h0.next<=qr):=by
 obtain⟨e,rfl⟩:∃k,d=k+3+1:=⟨d-4,a_⟩;rw[ZS A a_];simp only[EA,Aa];have hb:=C.hb;obtain⟨h1,e_,M,E,p⟩:=nW h0 (.cells [.An] 30);rw[e_];have t:=M.hb hb;have C1:=(C.gU M).C;rw[C1.jh];simp only[qQ,Aa,I];have G:Ext h1 ((h1.new (.cells [.ptr B.b 0] 55)).new (.cells [.int .i64 z] 3)):=(Aw.new _ _).Da _;have n2:((h1.new (.cells [.ptr B.b 0] 55)).new (.cells [.int .i64 z] 3)).next=h0.next+3:=by rw[Ab.Dh,Ab.Dh,p]
 have Z:((h1.new (.cells [.ptr B.b 0] 55)).new (.cells [.int .i64 z] 3)).get (h0.next+1)=some (.cells [.ptr B.b 0] 55):=by rw[<-p,Az _ (aO _)];exact Ad _ _
 have gz:((h1.new (.cells [.ptr B.b 0] 55)).new (.cells [.int .i64 z] 3)).get (h0.next+2)=some (.cells [I z] 3):=by rw[show h0.next+2=(h1.new (.cells [.ptr B.b 0] 55)).next by rw[Ab.Dh,p]];exact Ad _ _
 rw[show(h1.new (.cells [.ptr B.b 0] 55)).next=h0.next+2 by rw[Ab.Dh,p],p];generalize (h1.new (.cells [.ptr B.b 0] 55)).new (.cells [.int .i64 z] 3)=h2 at G n2 Z gz⊢;have f:=G.hb t;have O:Ext h0 h2:=M.trans G;generalize u:(((((((((Tr.nil.put 0 (some (EV.ptr B.c 0))).put 1 (some (EV.int .i64 z))).put 4 (some EV.An)).put 5 (some (EV.ptr h0.next 0))).put 7 (some (EV.ptr B.c 0))).put 8 (some (EV.ptr B.c 0))).put 9 (some (EV.ptr B.c 2))).put 10 (some (EV.ptr B.b 0))).put 11 (some (EV.int .i64 z))).put 12 (some (EV.func 166 [] [EV.ptr (h0.next+1) 0,EV.ptr (h0.next+2) 0]))=tm;have t5:tmp tm 5=.ptr h0.next 0:=by rw[<-u];simp only[F1,reduceIte,Nat.reduceEqDiff]
 clear u;have nl:h2.next+1=h0.next+4:=a_
 have hlen:=C.map.len;have:=C.sm.b0;have:=C.sm.b1;have cl:qP disp K e (h2.next+1) (h0.next+2) B.b B.ml B.ll X.S.g X.es z (h2.next+2) (fun j h=>nS F h0 h (h2.next+1) tm (h0.next+2) z (jD z X.es j)/\j<=X.es.length) (fun h=>False):=by
  refine⟨fun j h h' w c=>⟨w.1.chg c (fun i a=>by have:=a.1;have:=a.2;omega) a_ a_,w.2⟩,fun h h' w c=>w.elim,fun j hj h a w nx=>?_,fun j hj h a w=>⟨by rw[ZN hj a];exact w.1,hj⟩,fun j h w=>w.1.q.hb,fun h w=>w.elim,fun j h w=>(C.rd w.1.q).C.map,fun j h w=>w.1.zq⟩;have bl:=DZ z X.es j;obtain⟨v,h',e1,rfl,c,w'⟩:=ZP (K:=K) A t5 (l0:=h2.next+1) (zq:=h0.next+2) a_ a_ a_ (e:=e) a_ (j:=j) a_ a_ w.1;refine⟨true,h',e1,c.mono fun i a y=>a ⟨by have:=y.1;omega,by have:=y.2;omega⟩,?_⟩;rw[aN rfl,ZM hj a];exact⟨w',hj⟩
 have U:Ext h2 (Bn TT 85 19 0 tm h2):=Ga;have I0:nS F h0 (Bn TT 85 19 0 tm h2) (h2.next+1) tm (h0.next+2) z (jD z X.es 0):=⟨Qt.ext (O.trans U) hb,F3,Gw,U.at f gz,.An,0,U.at f (G.at t E),Bu.nil _ _ _ _,fun y=>absurd y (bU 0)⟩;refine Ok.pw (K:=K) A a_ cl a_ C.sm Z f ⟨I0,cO _⟩ (fun h3 w=>⟨w.1.lp,?_⟩) fun h3 w=>w.elim
 obtain⟨w,_⟩:=w;obtain⟨s,qr,r1,r2,V⟩:=w.row;have W:=w.q.hb;have l3:=W _ _ w.lp;have J:Qt F h0 (h3.put (h2.next+1) (Au TT 85 19 0 tm .exhausted none h2.next)):=w.q.jt ((Aw.refl (S:=fun i=>i=h2.next+1) h3).Ao (.inl rfl) l3 _) fun i a=>a_
 have E:(h3.put (h2.next+1) (Au TT 85 19 0 tm .exhausted none h2.next)).get h0.next=some (.cells [s] 30):=by rw[Ae _];exact r1
 have gd:(h3.put (h2.next+1) (Au TT 85 19 0 tm .exhausted none h2.next)).get h2.next=some (.deferred true):=by rw[Ae _];exact w.dd
 have rr:=r2.frame (h':=h3.put (h2.next+1) (Au TT 85 19 0 tm .exhausted none h2.next)) fun y=>Ae _ (by have:=V y;omega)
 generalize h3.put (h2.next+1) (Au TT 85 19 0 tm .exhausted none h2.next)=h4 at J E gd rr⊢;simp only[Ul,dr];rw[Ak E rfl (v:=s) rfl];refine Ok.unwind (cj.2 ⟨by simp,cy⟩) (fun d hd=>by rw[aP]at hd;subst hd;exact gd) J.hb fun h6 ch _=>?_
 exact .ret ⟨J.jt ch fun i a=>by rw[aP]at a;omega,qr,rr.frame fun y=>ch.get _ (J.hb _ _ (rr.block y)) fun y'=>by rw[aP]at y';have:=V y;omega,fun y=>by have:=V y;omega⟩
end
end
section
def Co.live(X:Co)(z:Int):Int:=lP X.S.g X.es z
def Co.lZ(X:Co)(z:Int):Bool:=X.closed z&&(decide (2*X.live z<=X.S.g.S)&&kJ X.S z X.es)
def Co.Q6(X:Co):Nat->Int
 | 0=>-1
 | i+1=>if X.lZ i=true/\(X.Q6 i = -1\/X.live i<X.live (X.Q6 i))then i else X.Q6 i
theorem Co.wK(X:Co):∀n,-1<=X.Q6 n/\X.Q6 n<n
 | 0=>by unfold Co.Q6;omega
 | n+1=>by
  have:=X.wK n;unfold Co.Q6;split<;>omega
theorem EB(a:X.es.length<=256)(z:Int):0<=X.live z/\X.live z<=256:=by
 unfold Co.live lP;split
 ·have:=sP z X.es;omega
 ·omega
theorem Ex.EC(C:Ex h B X F):X.es.length<=256:=by
 have:=C.map.len;have:=C.sm.b1;have:=C.sm.b0;omega
theorem ZT(A:Ca disp)(hK:10000<K)(hn:X.S.g.D*X.S.g.Z=n)(hd:8<=d):∀(f i:Nat) (h:Ab),n-i<f->i<=n->Ex h B X F ->
 Ok (Iu (Ag TT disp K d false) (Ag TT disp K d true) K f (.ptr B.c 0) (I (X.Q6 i)) (I n) (I i) h) fun v h'=>v=I (X.Q6 n)/\Qt F h h':=by
 intro f;induction f with
 | zero=>intro i h hf;omega
 | succ f ih=>
  intro i h hf hi C;have bd:=C.sm.jO;have V:=C.EC;rw[Iu];simp only[I,Ac];by_cases ae:i<n
  ·have:decide ((i:Int)<(n:Int))=true:=by simp;omega
   simp only[this,Aa,ED];rw[C.jh];have ml:=sR (K:=K) C.map i;simp only[I]at ml;rw[ml,Aq];refine(tt A hK C hd (z:=i) ⟨a_,a_⟩).Al ?_;rintro _ h2 ⟨rfl,O⟩;have G:=(C.rd O).C;have nx:∀h' b,Qt F h h'->b=X.Q6 (i+1)->Ok (Pc (Ag TT disp K d false) (Ag TT disp K d true) K (Iu (Ag TT disp K d false) (Ag TT disp K d true) K f) (.ptr B.c 0) (.int .i64 b) (.int .i64 (n:Int)) (.int .i64 (i:Int)) h') fun v h'=>v=I (X.Q6 n)/\Qt F h h':=by
    intro h' b q hb;subst hb;simp only[Pc,Ac];rw[Ci,show((i:Nat):Int)+1=((i+1:Nat):Int) from a_];refine(ih (i+1) h' a_ a_ (C.rd q).C).mono ?_;rintro v h3 ⟨a,u⟩;exact⟨a,q.trans u⟩
   have no:X.lZ i=false->X.Q6 i=X.Q6 (i+1):=fun E=>by
    rw[show X.Q6 (i+1)=if X.lZ i=true/\(X.Q6 i = -1\/X.live i<X.live (X.Q6 i))then(i:Int)else X.Q6 i from rfl,aK (by rw[E];simp)]
   have lb:=EB V i;have vb:=X.wK i;have af:=EB V (X.Q6 i);have ag:Fa (.tuple []) false=false/\Fa (.tuple []) true=false:=⟨rfl,rfl⟩;unfold Co.lZ at no;show Ok (iX (.bool (X.closed i)) _) _;cases E:X.closed i with
   | false=>
    simp only[Aa,Ac,Pj,K6];exact nx _ _ O (no (by rw[E,bB]))
   | true=>
   simp only[Aa,Ac];rw[G.hH];refine(P7 (K:=K) G.M G.hb).Al ?_;rintro _ h3 ⟨rfl,x3⟩;have u:=O.trans (Qt.ext x3 G.hb);have C3:=(C.rd u).C;unfold gV;rw[wL (v:=I X.S.g.S) rfl];simp only[I,Ac];have hL:lP X.S.g X.es i=X.live i:=rfl;rw[hL,Ci];by_cases h2:X.S.g.S<2*X.live i
   ·simp only[h2,aB,Aa,Ac,Pj,K6]
    exact nx _ _ u (no (by rw[E,aS a_];rfl))
   simp only[h2,aA,Aa,Ac,Pj];have W:=ZK (K:=K) A hK C3 (d:=d) hd i;simp only[I]at W;refine W.Al ?_;rintro _ h4 ⟨rfl,t⟩;have t:=u.trans t;have C4:=(C.rd t).C;cases hw:kJ X.S i X.es with
   | false=>
    simp only[Aa,Ac,K6];exact nx _ _ t (no (by rw[hw,eO,eO]))
   | true=>
   simp only[Aa,Ac,K6,EE];have p:X.lZ i=true:=by unfold Co.lZ;rw[E,hw,aQ a_];rfl
   by_cases J:X.Q6 i = -1
   ·simp only[J,aB,Aa,Ac,Uo]
    exact nx _ _ t (by rw[show X.Q6 (i+1)=if X.lZ i=true/\(X.Q6 i = -1\/X.live i<X.live (X.Q6 i))then(i:Int)else X.Q6 i from rfl,aN ⟨p,.inl J⟩])
   simp only[J,aA,Aa,Ac];rw[C4.jh];have ml:=sR (K:=K) C4.map (X.Q6 i);simp only[I]at ml;rw[ml,Aq];simp only[Ac,Uo];have U:lP X.S.g X.es (X.Q6 i)=X.live (X.Q6 i):=rfl;rw[U];by_cases h3:X.live i<X.live (X.Q6 i)
   ·simp only[h3,aB,Aa,Ac]
    exact nx _ _ t (by rw[show X.Q6 (i+1)=if X.lZ i=true/\(X.Q6 i = -1\/X.live i<X.live (X.Q6 i))then(i:Int)else X.Q6 i from rfl,aN ⟨p,.inr h3⟩])
   ·simp only[h3,aA,Aa,Ac]
    exact nx _ _ t (by rw[show X.Q6 (i+1)=if X.lZ i=true/\(X.Q6 i = -1\/X.live i<X.live (X.Q6 i))then(i:Int)else X.Q6 i from rfl,aK fun y=>y.2.elim J h3])
  ·have:decide ((i:Int)<(n:Int))=false:=by simp;omega
   have:i=n:=a_
   subst this;simp only[Int.lt_irrefl,aA,Aa,EF];exact .ret ⟨rfl,Qt.refl C.hb⟩
theorem ZU(A:Ca disp)(hK:10000<K)(C:Ex h B X F)(hd:9<=d):Ok (Ag TT disp K d false 127 [.ptr B.c 0] h) fun v h'=>v=I (X.Q6 (X.S.g.D*X.S.g.Z).toNat)/\Qt F h h':=by
 obtain⟨e,rfl⟩:=d_ d;rw[ZV A a_];simp only[EG,Aa];rw[C.hH];refine qO A C fun h2 f=>?_
 have bd:=C.sm.jO;obtain⟨n,p⟩:=bL (show 0<=X.S.g.D*X.S.g.Z from a_);rw[p,bJ];refine(ZT A hK p (d:=e) a_ K 0 h2 a_ a_ (C.gU f).C).mono ?_;rintro v h3 ⟨a,t⟩;exact⟨a,(Qt.ext f C.hb).trans t⟩
end
theorem Ex.lift(C:Ex h B X F):Ex h.lift B X F:=
 ⟨C.M.same (iG.lift _),by rw[Bv];exact C.core,by rw[Bv];exact C.ar,C.map.frame (Bv _ _) (Bv _ _) (Bv _ _),C.wf,C.out,Cz C.hb⟩
section
def Gy(x:R)(h:Ab)(B:Cb)(X:Co)(F:Nat->Prop):Prop:=Ok x fun v h'=>∃(e:Int) (Y:Co),v=I e/\Gr h h' B X F Y
theorem Gy.ret{e:Int}(c:Gr h h' B X F Y):Gy (some (.int .i64 e,h')) h B X F:=Ok.ret ⟨e,Y,rfl,c⟩
theorem Gy.from {x:R}(c:Gr h h1 B X F Y)(a:Gy x h1 B Y F):Gy x h B X F:=by
 refine Ok.mono a ?_;rintro v h' ⟨e,Z,rfl,c2⟩;exact⟨e,Z,rfl,c.trans c2⟩
theorem Gy.then {x:R}(c:Gr h h1 B X F Y)(a:Gy x h1 B Y F)(b:∀e h' Z,Gr h h' B X F Z->Gy (k (.int .i64 e) h') h B X F):Gy (Al x k) h B X F:=by
 refine Ok.Al a ?_;rintro v h' ⟨e,Z,rfl,c2⟩;exact b e h' Z (c.trans c2)
theorem To{z:Int}:X.closed z=true↔0<=D4 X.S.g z/\¬z=X.S.a/\¬z=X.S.b/\X.S.Ja z=false/\js X.cur X.Cn z=false/\hasB X.S.ps X.S.g.D.toNat z=false:=by
 unfold Co.closed;simp only[bD,av,Bool.not_eq_true']
theorem ZW{z:Int}:js cur Cn z=true↔∃i,i<3/\((¬cur i = -1/\z=cur i)\/(¬Cn i = -1/\z=Cn i)):=by
 have e:∀x:Int,Uc x z=true↔¬x = -1/\z=x:=fun x=>by
  unfold Uc;simp only[bD,av];exact⟨fun y=>⟨y.1,y.2.symm⟩,fun y=>⟨y.1,y.2.symm⟩⟩
 have st:js cur Cn z=(((false||(Uc (cur 0) z||Uc (Cn 0) z))||(Uc (cur 1) z||Uc (Cn 1) z))||(Uc (cur 2) z||Uc (Cn 2) z)):=rfl;rw[st];simp only[Bool.or_eq_true,e,aT,false_or];constructor
 ·rintro((h|h)|h)
  ·exact⟨0,a_,h⟩
  ·exact⟨1,a_,h⟩
  ·exact⟨2,a_,h⟩
 ·rintro⟨i,a,h⟩
  rcases i with _|_|_|i
  ·exact .inl (.inl h)
  ·exact .inl (.inr h)
  ·exact .inr h
  ·omega
def ju(x:R)(h:Ab)(B:Cb)(X:Co)(F:Nat->Prop)(R:Int->Co->Prop):Prop:=Ok x fun v h'=>∃(e:Int) (Y:Co),v=I e/\Gr h h' B X F Y/\R e Y
theorem ju.ok {x:R}{R:Int->Co->Prop}(a:ju x h B X F R):Gy x h B X F:=Ok.mono a fun _ _ ⟨e,Y,p,c,_⟩=>⟨e,Y,p,c⟩
theorem ju.ret{e:Int}{R:Int->Co->Prop}(c:Gr h h' B X F Y)(r:R e Y):ju (some (.int .i64 e,h')) h B X F R:=Ok.ret ⟨e,Y,rfl,c,r⟩
theorem ZX(S:Mi)(z:Int):Mk S (S.l_ z):=⟨rfl,Dk.refl _⟩
theorem ZY{z w:Int}(h:w∈ps d):w∈(X3 g n ps z).2 d:=by
 unfold X3;split
 ·exact h
 ·split
  ·exact h
  ·split
   ·simp only[upd]
    split
    next e=>subst e;exact List.mem_append_left _ h
    ·exact h
   ·exact h
theorem ZZ(s:Sm g){z:Int}(h:(X3 g g.D.toNat ps z).1=0):hasB (X3 g g.D.toNat ps z).2 g.D.toNat z=true:=by
 unfold X3 at h⊢;split at h
 ·exact absurd h (by show ¬(13:Int)=0;decide)
 next h1=>
  rw[aK h1];split at h
  ·exact absurd h (by show ¬(16:Int)=0;decide)
  next h2=>
   rw[aK h2];split at h
   next h3=>
    rw[aN h3];refine px.2 ⟨(D4 g z).toNat,?_,?_⟩
    ·rcases lU s z with y|⟨_,y,_⟩<;>omega
    ·simp[upd]
   ·exact absurd h (by show ¬(17:Int)=0;decide)
structure iY(P:Nat->Prop)(X Y:Co):Prop where
 es:Y.es=X.es
 cur:Y.cur=X.cur
 Cn:Y.Cn=X.Cn
 gen:Y.gen=X.gen
 ep:Y.ep=X.ep
 nx:Y.nx=X.nx
 on:Wg P X.S.dr Y.S.dr
 cl:∀w,Y.closed w=true->X.closed w=true
theorem iY.refl(P:Nat->Prop)(X:Co):iY P X X:=⟨rfl,rfl,rfl,rfl,rfl,rfl,Wg.refl _ _,fun _ h=>h⟩
theorem iY.trans{Z:Co}(a:iY P X Y)(b:iY P Y Z):iY P X Z:=⟨b.es.trans a.es,b.cur.trans a.cur,b.Cn.trans a.Cn,b.gen.trans a.gen,b.ep.trans a.ep,b.nx.trans a.nx,a.on.trans b.on,fun w h=>a.cl w (b.cl w h)⟩
theorem iY.mono {Q:Nat->Prop}(a:iY P X Y)(h:∀w,P w->Q w):iY Q X Y:=⟨a.es,a.cur,a.Cn,a.gen,a.ep,a.nx,a.on.mono h,a.cl⟩
theorem Z'(z:Int)(on:Wg P X.S.dr D):iY P X { X with S:=({ X.S with dr:=D }:Mi).l_ z }:=by
 refine⟨rfl,rfl,rfl,rfl,rfl,rfl,on,fun w h=>?_⟩;obtain⟨a,b,c,d,e,f⟩:=To.1 h;refine To.2 ⟨a,b,c,d,e,?_⟩;cases p:hasB X.S.ps X.S.g.D.toNat w with
 | false=>rfl
 | true=>
  obtain⟨k,t,hm⟩:=px.1 p;have:hasB (X3 X.S.g X.S.g.D.toNat X.S.ps z).2 X.S.g.D.toNat w=true:=px.2 ⟨k,t,ZY hm⟩;have f:hasB (X3 X.S.g X.S.g.D.toNat X.S.ps z).2 X.S.g.D.toNat w=false:=f;rw[f]at this;cases this
theorem Z_{z:Int}(t:0<=D4 X.S.g z)(on:Wg P X.S.dr D):iY P X { X with S:=({ X.S with dr:=D }:Mi).mark z }/\({ X with S:=({ X.S with dr:=D }:Mi).mark z }:Co).closed z=false:=by
 have u:(({ X.S with dr:=D }:Mi).mark z).Ja z=true:=by
  show(decide (0<=D4 X.S.g z)&&decide ((if z.toNat=z.toNat then(1:Int)else X.S.bad z.toNat)=1))=true;rw[aN rfl];simp[t]
 refine⟨⟨rfl,rfl,rfl,rfl,rfl,rfl,on,fun w h=>?_⟩,?_⟩
 ·obtain⟨a,b,c,d,e,f⟩:=To.1 h
  have d:(decide (0<=D4 X.S.g w)&&decide ((if w.toNat=z.toNat then(1:Int)else X.S.bad w.toNat)=1))=false:=d;have a:0<=D4 X.S.g w:=a;have nw:¬w.toNat=z.toNat:=fun y=>by rw[aN y]at d;simp[a]at d
  refine To.2 ⟨a,b,c,?_,e,?_⟩
  ·show(decide (0<=D4 X.S.g w)&&decide (X.S.bad w.toNat=1))=false
   rw[aK nw]at d;exact d
  ·cases p:hasB X.S.ps X.S.g.D.toNat w with
   | false=>rfl
   | true=>
    obtain⟨k,E,hm⟩:=px.1 p;have f:hasB (({ X.S with dr:=D }:Mi).dropped z) X.S.g.D.toNat w=false:=f;have:hasB (({ X.S with dr:=D }:Mi).dropped z) X.S.g.D.toNat w=true:=by
     refine px.2 ⟨k,E,?_⟩;unfold Mi.dropped;split
     ·exact hm
     ·simp only[upd]
      split
      next e=>
       subst e
       unfold Tf;rw[dZ];exact⟨hm,aQ fun y=>nw (by rw[y])⟩
      ·exact hm
    rw[f]at this;cases this
 ·cases p:({ X with S:=({ X.S with dr:=D }:Mi).mark z }:Co).closed z with
  | false=>rfl
  | true=>
   obtain⟨_,_,_,d,_⟩:=To.1 p;have d:(({ X.S with dr:=D }:Mi).mark z).Ja z=false:=d;rw[u]at d;cases d
section
variable (A:Ca disp)(hK:10000<K)(C:Ex h B X F)
include A hK C
theorem EH(hd:14<=d)(f:∀h',Gr h h' B X F { X with S:={ X.S with dr:=X.S.dr.flush.1 } }->Ok (k (.int .i64 X.S.dr.flush.2) h') Q):Ok (Al (Bm K (.ptr B.m 0) h) fun v h=>Al (Ag TT disp K d false 52 [v] h) k) Q:=by
 obtain⟨D,V,dr⟩:=nO A hK C.M C.hb;rw[dr.C0];refine Ok.Al (dr.flush hd) ?_;rintro v h' ⟨rfl,p,kf,a⟩;exact f _ (C.Jb p kf a (qJ (qG _)))
theorem γ(hd:19<=d){z:Int}(Z:Vv z)(hc:X.closed z=true):ju (Ag TT disp K d false 56 [.ptr B.c 0,I z] h) h B X F (fun e Y=>e=0->iY (fun w=>w=z.toNat) X Y/\Y.closed z=false):=by
 obtain⟨c1,O,U,c4,c5,c6⟩:=To.1 hc;have nb:=BU c4;obtain⟨e,rfl⟩:=d_ d;rw[δ A a_];simp only[EI,Aa];rw[C.hH];obtain⟨D,V,dr⟩:=nO A hK C.M C.hb;rw[dr.C0];refine Ok.Al (dr.reset (d:=e) a_ z (by rw[(pk X.S.dr z).size];exact C.wf.sz)) ?_;rintro v h2 ⟨rfl,M2,k2,W⟩;have c2:=C.Jb M2 k2 W (qJ (A' _ z));have on:=(BC X.S.dr z).1;generalize (X.S.dr.reset z).1=t at M2 c2 on;generalize (X.S.dr.reset z).2=er;simp only[I,Ac];by_cases h0:er=0
 ·simp only[h0,aB,Aa]
  rw[c2.C.hH];obtain⟨p,e1,e2⟩:=EJ c2.C.M c2.C.hb A hK;rw[e1,Aq];have u:=e2 (d:=e) a_ Z nb;simp only[I]at u;refine Ok.Al u ?_;rintro v h' ⟨rfl,J,k,a⟩;refine ju.ret (c2.trans (c2.C.Jb J k a (ZX _ _))) fun e0=>⟨Z' z on,?_⟩
  have e0:(X3 X.S.g X.S.g.D.toNat X.S.ps z).1=0:=e0;have hh:=ZZ C.sm e0;cases hx:({ X with S:=({ X.S with dr:=t }:Mi).l_ z }:Co).closed z with
  | false=>rfl
  | true=>
   obtain⟨_,_,_,_,_,f⟩:=To.1 hx;have f:hasB (X3 X.S.g X.S.g.D.toNat X.S.ps z).2 X.S.g.D.toNat z=false:=f;rw[hh]at f;cases f
 simp only[h0,aA,Aa,Ac];by_cases E:er=34
 ·simp only[E,aB,Aa]
  exact ju.ret c2 fun y=>absurd y c_
 simp only[E,aA,Aa,EK];rw[c2.C.hH];have q:=Y7 A hK c2.C.M c2.C.hb (d:=e) a_ Z;simp only[I]at q;refine Ok.Al q ?_;rintro v h3 ⟨rfl,J,k,a⟩;have eq:({ X.S with dr:=t }:Mi).Bq z=(({ X.S with dr:=t }:Mi).mark z,0):=by
  unfold Mi.Bq;rw[aK (show ¬D4 X.S.g z<0 from a_),aK (by rw[show({ X.S with dr:=t }:Mi).Ja z=X.S.Ja z from rfl,c4];decide),aN ⟨O,U⟩]
 have G:=tj ({ X.S with dr:=t }:Mi) z;rw[eq]at J G⊢;have c3:=c2.trans (c2.C.Jb J k a G);simp only[Ac,show ¬((0:Int)=34) from c_,aA,Aa,EL];exact ju.ret c3 fun _=>Z_ c1 on
omit C in
theorem ε(hn:X.S.g.D*X.S.g.Z=n)(hd:19<=d):∀(f i:Nat) (h1:Ab) (Y:Co),n-i<f->i<=n->Gr h h1 B X F Y->iY (fun w=>X.closed (w:Int)=true) X Y->(∀w:Nat,w<i->Y.dead w=false) ->
 ju (Fu (Ag TT disp K d false) (Ag TT disp K d true) K f (.ptr B.c 0) (I n) (I i) h1) h B X F (fun e Y=>e=0->iY (fun w=>X.closed (w:Int)=true) X Y/\∀w:Nat,w<n->Y.dead w=false):=by
 intro f;induction f with
 | zero=>intro i h1 Y G;omega
 | succ f J=>
  intro i h1 Y G hi c1 rc dd;have M:Y.S.g=X.S.g:=c1.ck.g;have bd:=c1.C.sm.jO;rw[M]at bd;rw[Fu];simp only[I,Ac];by_cases O:i<n
  ·have:decide ((i:Int)<(n:Int))=true:=by simp;omega
   simp only[this,Aa,Xb];refine Ok.Al (DM A hK c1.C (d:=d) a_ (z:=i) ⟨a_,a_⟩) ?_;rintro v h2 ⟨rfl,U⟩;have c2:=c1.trans (c1.C.rd U);have nx:∀h3 Z,Gr h h3 B X F Z->iY (fun w=>X.closed (w:Int)=true) X Z->(∀w:Nat,w<i+1->Z.dead w=false)->ju (Kh (Ag TT disp K d false) (Ag TT disp K d true) K (Fu (Ag TT disp K d false) (Ag TT disp K d true) K f) (.ptr B.c 0) (.int .i64 (n:Int)) (.int .i64 (i:Int)) h3) h B X F (fun e Y=>e=0->iY (fun w=>X.closed (w:Int)=true) X Y/\∀w:Nat,w<n->Y.dead w=false):=fun h3 Z c3 u d3=>by
    simp only[Kh,Ac];rw[Ci,show((i:Nat):Int)+1=((i+1:Nat):Int) from a_];exact J (i+1) h3 Z a_ a_ c3 u d3
   cases a:Y.dead i with
   | false=>
    simp only[Aa];refine nx _ _ c2 rc fun w hw=>?_
    rcases dJ w i with y|y
    ·exact dd w y
    ·have:w=i:=a_
     subst this;exact a
   | true=>
    simp only[Aa,Wn];have p:Y.closed i=true:=by
     unfold Co.dead at a;rw[bD]at a;exact a.1
    refine Ok.Al (γ A hK c2.C hd (z:=i) ⟨a_,a_⟩ p) ?_;rintro _ h3 ⟨e3,Z,rfl,c3,u⟩;have t:=c2.trans c3;simp only[I,Ac];by_cases h0:e3=0
    ·simp only[h0,aC,aA,Aa]
     obtain⟨E,V⟩:=u h0;refine nx _ _ t (rc.trans (E.mono fun w hw=>by rw[hw,bJ];exact rc.cl _ p)) fun w hw=>?_
     rcases dJ w i with y|y
     ·have:=dd w y
      unfold Co.dead at this⊢;rw[c3.ck.g,E.es];cases W:Z.closed (w:Int)with
      | false=>rfl
      | true=>
       rw[E.cl _ W]at this;exact this
     ·have:w=i:=a_
      subst this;unfold Co.dead;rw[V];rfl
    ·simp only[h0,aH,aB,Aa]
     exact ju.ret t fun y=>absurd y h0
  ·have:decide ((i:Int)<(n:Int))=false:=by simp;omega
   simp only[this,Aa,Ww];exact ju.ret c1 fun _=>⟨rc,fun w hw=>dd w a_⟩
structure EM(X Y:Co):Prop where
 gen:Y.gen=Cs .i64 (X.gen+1)
 ep:Y.ep=X.ep
 nx:Y.nx=X.nx
 es:Y.es=X.es
 sn:snR Y.gen Y.ep Y.nx Y.es=true
 held:∃n,2<=n/\Akf Y.es Y.gen Y.ep Y.nx Y.S Y.cur 3 n
 dead:∀w:Nat,(w:Int)<Y.S.g.D*Y.S.g.Z->Y.dead w=false
theorem EN(hd:21<=d):ju (Ag TT disp K d false 17 [.ptr B.c 0] h) h B X F (fun e Y=>X.S.dr.ev = []->e=0->EM X Y):=by
 obtain⟨e,rfl⟩:=d_ d;rw[ζ A a_];simp only[EO,Aa];rw[C.hH];refine EH A hK C (d:=e) a_ fun h1 c1=>?_
 have V:=BD (fun _=>False) X.S.dr;generalize X.S.dr.flush.1=D1 at c1 V;generalize X.S.dr.flush.2=e1;simp only[Ac];by_cases h0:e1=0
 case neg=>
  simp only[h0,aH,aB,Aa];exact ju.ret c1 fun _ y=>absurd y h0
 simp only[h0,aC,aA,Aa,Wv];rw[c1.C.CZ];simp only[I,Ac];have lc:=c1.hb _ _ c1.C.core;refine Ok.Z7 c1.C.core rfl rfl (by show 3<7;decide) ?_;have c2:=c1.trans (c1.C.qM (Cs .i64 (X.gen+1)) X.ep X.nx X.st);have e2:(({ X with S:={ X.S with dr:=D1 } }:Co).cells B).set 3 (.int .i64 (Cs .i64 (X.gen+1)))=({ X with S:={ X.S with dr:=D1 },gen:=Cs .i64 (X.gen+1) }:Co).cells B:=rfl;rw[e2];obtain⟨t,G⟩:∃t:Co,t = { X with S:={ X.S with dr:=D1 },gen:=Cs .i64 (X.gen+1) }:=⟨_,rfl⟩;rw[<-G];have c2:Gr h (h1.put B.c (.cells (t.cells B) 111)) B X F t:=by rw[G];exact c2
 generalize h1.put B.c (.cells (t.cells B) 111)=h2 at c2⊢;have E:=c2.hb _ _ c2.C.core;rw[I6 E,c2.C.I6];simp only[Aa,Ar];rw[I6 E,c2.C.CZ];simp only[Aa,Ar];rw[I6 E,c2.C.C_];simp only[Aa,Ar];rw[I6 E,c2.C.j6];simp only[Aa,Ar];rw[I6 E,c2.C.jh];simp only[Aa,Ar];rw[Ax (l:=[I t.gen,I t.ep,I t.nx,.ptr B.b 0]) rfl];obtain⟨n1,n2,n3,n4,n5,n6,n7,n8,n9,ay⟩:=c2.C.ne;have U:=c2.C.lift;have wr:=YA (K:=K) A hK (ar:=B.ar) (m:=B.m) (b:=B.b) (ml:=B.ml) (ll:=B.ll) (F:=B.fr F) (es:=t.es) (.inr (.inr (.inl rfl))) ⟨.inr (.inr (.inr (.inl rfl))),.inr (.inr (.inr (.inr (.inl rfl)))),.inr (.inr (.inr (.inr (.inr rfl)))),n5.symm,n6.symm,n7.symm⟩ (x:=t.gen) (y:=t.ep) (z:=t.nx) (d:=e) a_ U.M U.hb U.ar U.map U.wf.rt U.wf.sz U.wf.an;refine Ok.bC (S:=fun j=>¬B.fr F j\/j=B.ar) wr (fun _ _ p=>by obtain⟨_,_,_,_,_,_,a,_⟩:=p;exact a.c) ?_;rintro _ az h3 s' ⟨n',er,S',cur',old',rfl,a,wx⟩ sm ch a5;have c3:=c2.trans (c2.C.YE (a.M.same sm) (by rw[sm.get];exact a.A) ch (sm.hb a.hb) a.kk a.an);simp only[Aa,I,Ac];by_cases O:er=0
 case neg=>
  simp only[O,aH,aB,Aa];exact ju.ret c3 fun _ y=>absurd y O
 simp only[O,aC,aA,Aa,Wt];rw[c3.C.hH];refine qO A c3.C fun h4 x4=>?_
 have c4:=c3.C.gU x4;obtain⟨u,W⟩:∃u:Co,u = { t with S:=S',cur:=cur',Cn:=old' }:=⟨_,rfl⟩;rw[<-W]at c3 c4⊢;have bd:=c4.C.sm.jO;obtain⟨n,hn⟩:=bL (show 0<=u.S.g.D*u.S.g.Z from a_);rw[hn];refine Ok.mono (ε A hK hn (d:=e) a_ K 0 h4 _ a_ a_ c4 (iY.refl _ _) (fun w hw=>absurd hw (cT _))) ?_;rintro _ h5 ⟨e5,Y,rfl,c5,r5⟩;refine⟨e5,Y,rfl,c3.trans c5,fun ev e0=>?_⟩;obtain⟨rc,dd⟩:=r5 e0;have aa:t.S.dr.ev = []:=by rw[G];exact(V ev).1
 obtain⟨sn,k,hk,J,eJ,hJ⟩:=wx.held aa O;have ae:=wx.ev aa;have q:u.gen=t.gen/\u.ep=t.ep/\u.nx=t.nx/\u.es=t.es/\u.S=S'/\u.cur=cur':=by rw[W];exact⟨rfl,rfl,rfl,rfl,rfl,rfl⟩
 obtain⟨q1,q2,q3,q4,q5,q6⟩:=q;have p:t.gen=Cs .i64 (X.gen+1)/\t.ep=X.ep/\t.nx=X.nx/\t.es=X.es:=by rw[G];exact⟨rfl,rfl,rfl,rfl⟩
 obtain⟨p1,p2,p3,p4⟩:=p;refine⟨rc.gen.trans (q1.trans p1),rc.ep.trans (q2.trans p2),rc.nx.trans (q3.trans p3),rc.es.trans (q4.trans p4),?_,⟨k,hk,J,eJ,fun j hj hx=>?_⟩,fun w hw=>dd w (by rw[c5.ck.g]at hw;omega)⟩
 ·rw[rc.gen,rc.ep,rc.nx,rc.es,q1,q2,q3,q4];exact sn
 ·have hh:=hJ j hj hx
  rw[<-q5,<-q6,<-q1,<-q2,<-q3,<-q4]at hh;rw[rc.gen,rc.ep,rc.nx,rc.es];have dm:=tq c3.C.sm hh.1;refine hh.Hb c5.ck.g c5.ck.dr.n (congrFun rc.cur j) ((rc.on (by rw[q5];exact ae)).2 _ fun y=>?_);rw[dV dm.1]at y;obtain⟨_,_,_,_,f,_⟩:=To.1 y;have:js u.cur u.Cn (u.cur j)=true:=ZW.2 ⟨j,hj,.inl ⟨a_,rfl⟩⟩;rw[f]at this;cases this
theorem tw(hd:21<=d:=by omega):Gy (Ag TT disp K d false 17 [.ptr B.c 0] h) h B X F:=(EN A hK C hd).ok
end
end
section
section
variable {h2 h3:Ab}
theorem Gr.wM(x:Ext h h1)(c:Gr h1 h2 B X (Bg F h h1) Y)(t:Aw T h2 h3)(p:∀i,T i->h.next<=i/\i<h1.next)(a:HB h3):Gr h h3 B X F Y:=
 ⟨(c.C.iv t (fun i f _=>.inr (p i f)) a).less fun _=>.inl,(x.nT c.k).then t fun i f u=>by have:=p i f;omega,c.ck⟩
end
structure wN(h h':Ab)(B:Cb)(X:Co)(F:Nat->Prop)(v:EV)(x:Me)(e:Int)(Y:Co):Prop where
 v:v=.tuple [.agg x.cells,I e]
 r:Vv x.Am/\Vv x.Bw
 c:Gr h h' B X F Y
theorem η(s:Int):Vv (Me.nil s).Am/\Vv (Me.nil s).Bw:=⟨⟨by show _<=(0:Int);omega,by show(0:Int)<=_;omega⟩,⟨by show _<=(0:Int);omega,by show(0:Int)<=_;omega⟩⟩
section
variable (A:Ca disp)(hK:10000<K)
include A hK
theorem θ(hd:20<=d){e:En}(w:e.Wf)(C:Ex h1 B X F){v3 v4:Nat}{x0:Me}(g3:h1.get v3=some (.cells e.cells 151))(g4:h1.get v4=some (.cells x0.cells 87))(f4:F v4):
 Ok (Po (Ag TT disp K d false) (Ag TT disp K d true) K (.ptr B.c 0) (.ptr v3 0) (.ptr v4 0) h1) fun v h'=>∃(x:Me) (a:Int) (Z:Co) (h2:Ab),v=.tuple [.agg x.cells,I a]/\(Vv x.Am/\Vv x.Bw)/\Gr h1 h2 B X F Z/\Aw (fun i=>i=v4) h2 h'/\HB h':=by
 have lc:=C.hb _ _ C.core;have l3:=C.hb _ _ g3;have el:=En.Ay w;simp only[Po,Aa];rw[I6 lc,C.hH];simp only[Aa,Ar];rw[I6 l3,Cd g3 rfl (Ai el)];simp only[Aa,Ar];rw[I6 lc,C.C_];simp only[Aa,Ar];rw[I6 lc,C.j6];simp only[Aa,Ar];have C':=C.lift;have pl:=ι A hK (d:=d) hd C'.M C'.hb w X.ep X.nx;have U:=XQ C.M.wf e X.ep X.nx;refine Ok.bC (S:=fun j=>¬B.fr F j) pl (fun _ _ p=>p.2.2.1) ?_;rintro _ ah h2 s' ⟨rfl,M',_,V⟩ sm ch W;have c2:=C.Jb (M'.same sm) ch (sm.hb V) (XL _ e X.ep X.nx);have J:=c2.k.at C.hb g4 f4;generalize X.S.place e X.ep X.nx=P at c2 U⊢;obtain⟨S',x,a⟩:=P;simp only at c2 U⊢;generalize ({ X with S:=S' }:Co)=Y at c2⊢;simp only[Aa];rw[Hc (by rcases W with rfl|⟨w,rfl,_⟩<;>kernel_rfl)];refine Ok.mk rfl rfl fun h3 x3 e3 _=>?_
 have c3:=c2.trans (c2.C.gU x3);have f:=x3.at c2.hb J;have al:h2.next≠v4:=by have:=c2.hb _ _ J;omega
 have l7:=c3.hb _ _ e3;have fin:∀(h4:Ab) (Z:Co),Gr h1 h4 B X F Z->h4.get h2.next=some (.cells x.cells 87)->h4.get v4=some (.cells x0.cells 87)->Ok (Z8 (Ag TT disp K d false) (Ag TT disp K d true) K (.ptr v4 0) (.ptr h2.next 0) (.int .i64 a) h4) fun v h'=>∃(x:Me) (a:Int) (Z:Co) (h2:Ab),v=.tuple [.agg x.cells,I a]/\(Vv x.Am/\Vv x.Bw)/\Gr h1 h2 B X F Z/\Aw (fun i=>i=v4) h2 h'/\HB h':=by
  intro h4 Z c4 g7 g4;have l4:=c4.hb _ _ g4;simp only[Z8,dr];rw[Cd g7 rfl (Ai (n:=6) rfl)];refine Ok.j4 g4 rfl rfl ?_;rw[Du (Af _ _ _) kH.1 kH.2 rfl];exact .ret ⟨x,a,Z,h4,rfl,U,c4,(Aw.refl (S:=fun i=>i=v4) h4).Ao (.inl rfl) l4 _,c4.hb.put l4 _⟩
 simp only[I,Ac];have aa:∀i,B.own i->i≠v4:=fun i hi y=>by subst y;exact C.out _ f4 hi
 have t:B.c≠h2.next:=by have:=c2.hb _ _ c2.C.core;omega
 have u:=aa _ (.inl rfl);by_cases h0:a=0
 ·simp only[h0,aB,Aa]at fin⊢
  rw[c3.C.j6];simp only[I,Ac];refine Ok.Z7 c3.C.core rfl rfl (by show 5<7;decide) ?_;exact fin _ _ (c3.trans (c3.C.qM Y.gen Y.ep (Cs .i64 (Y.nx+1)) Y.st)) (by rw[Ae _ t];exact e3) (by rw[Ae _ u];exact f)
 simp only[h0,aA,Aa,Ac];by_cases O:a=40
 ·simp only[O,aB,Aa]at fin⊢
  rw[c3.C.j6];simp only[I,Ac];refine Ok.Z7 c3.C.core rfl rfl (by show 5<7;decide) ?_;have c4:=c3.trans (c3.C.qM Y.gen Y.ep (Cs .i64 (Y.nx+1)) Y.st);have e4:(Y.cells B).set 5 (.int .i64 (Cs .i64 (Y.nx+1)))=({ Y with gen:=Y.gen,ep:=Y.ep,nx:=Cs .i64 (Y.nx+1),st:=Y.st }:Co).cells B:=rfl;rw[e4];have E:(h3.put B.c (.cells (({ Y with gen:=Y.gen,ep:=Y.ep,nx:=Cs .i64 (Y.nx+1),st:=Y.st }:Co).cells B) 111)).get h2.next=some (.cells x.cells 87):=by rw[Ae _ t];exact e3
  have G:(h3.put B.c (.cells (({ Y with gen:=Y.gen,ep:=Y.ep,nx:=Cs .i64 (Y.nx+1),st:=Y.st }:Co).cells B) 111)).get v4=some (.cells x0.cells 87):=by rw[Ae _ u];exact f
  generalize ({ Y with gen:=Y.gen,ep:=Y.ep,nx:=Cs .i64 (Y.nx+1),st:=Y.st }:Co)=Z at c4 E G⊢;generalize h3.put B.c (.cells (Z.cells B) 111)=h4 at c4 E G⊢;refine Ok.Z7 c4.C.core rfl rfl (by show 6<7;decide) ?_;exact fin _ _ (c4.trans (c4.C.qM Z.gen Z.ep Z.nx true)) (by rw[Ae _ t];exact E) (by rw[Ae _ u];exact G)
 ·simp only[O,aA,Aa]
  exact fin _ _ c3 e3 f
theorem wO(hd:22<=d){e:En}(w:e.Wf)(C:Ex h B X F):Ok (Ag TT disp K d false 69 [.ptr B.c 0,.agg e.cells] h) fun v h'=>∃x a Y,wN h h' B X F v x a Y:=by
 obtain⟨dd,rfl⟩:=d_ d;rw[κ A a_];simp only[EP,Aa];rw[show(h.new (.cells e.cells 151)).next=h.next+1 from rfl];have y:Ext h ((h.new (.cells e.cells 151)).new (.cells (Me.nil 0).cells 87)):=(Aw.new _ _).Da _;have O:((h.new (.cells e.cells 151)).new (.cells (Me.nil 0).cells 87)).next=h.next+2:=rfl
 have J:((h.new (.cells e.cells 151)).new (.cells (Me.nil 0).cells 87)).get h.next=some (.cells e.cells 151):=by rw[Az _ (aO _)];exact Ad _ _
 have g4:((h.new (.cells e.cells 151)).new (.cells (Me.nil 0).cells 87)).get (h.next+1)=some (.cells (Me.nil 0).cells 87):=Ad _ _;rw[show[EV.int .i64 0,.int .i64 0,.int .i64 0,.int .i64 0,.int .i64 0,.int .i64 0]=(Me.nil 0).cells from rfl];generalize (h.new (.cells e.cells 151)).new (.cells (Me.nil 0).cells 87)=h1 at y O J g4⊢;have f:=C.ext y;have f3:Bg F h h1 h.next:=.inr ⟨aD _,a_⟩
 have f4:Bg F h h1 (h.next+1):=.inr ⟨a_,a_⟩;rw[f.YG];have go:∀h2 Y,Gr h1 h2 B X (Bg F h h1) Y->Ok (Po (Ag TT disp K dd false) (Ag TT disp K dd true) K (.ptr B.c 0) (.ptr h.next 0) (.ptr (h.next+1) 0) h2) fun v h'=>∃x a Y,wN h h' B X F v x a Y:=fun h2 Y c2=>by
  refine Ok.mono (θ A hK (d:=dd) a_ w c2.C (c2.k.at f.hb J f3) (c2.k.at f.hb g4 f4) f4) ?_;rintro v h4 ⟨x,a,Z,h3,rfl,r,c3,t,E⟩;exact⟨x,a,Z,rfl,r,Gr.wM y (c2.trans c3) t (fun i G=>by subst G;omega) E⟩
 cases X.st with
 | false=>
  simp only[Aa];exact go h1 X (Gr.refl f)
 | true=>
  simp only[Aa];refine Ok.Al (tw A hK f (d:=dd)) ?_;rintro _ h2 ⟨e2,Y,rfl,c2⟩;have p:=c2.k.at f.hb g4 f4;have M:=c2.hb _ _ p;have stop:∀a:Int,Ok (Vz 6 (.ptr (h.next+1) 0) (.agg (Me.nil 0).cells) h2 fun h=>Gi TT [.c (.ptr (h1.next-1) 0) 87,.v (.int .i64 a)] h) fun v h'=>∃x a Y,wN h h' B X F v x a Y:=fun a=>by
   rw[show h1.next-1=h.next+1 from a_];refine Ok.j4 p rfl rfl ?_;rw[Du (Af _ _ _) kH.1 kH.2 rfl];exact .ret ⟨Me.nil 0,a,Y,rfl,η 0,Gr.wM y c2 ((Aw.refl (S:=fun i=>i=h.next+1) h2).Ao (.inl rfl) M _) (fun i G=>by subst G;omega) (c2.hb.put M _)⟩
  rw[show h1.next-1=h.next+1 from a_]at stop;simp only[I,Ac];by_cases u:e2=34
  ·simp only[u,aB,Aa]
   rw[Ax (l:=(Me.nil 0).cells) rfl];exact stop 34
  simp only[u,aA,Aa,Ac];by_cases h0:e2=0
  ·simp only[h0,aC,aA,Aa,ER]
   refine Ok.Z7 c2.C.core rfl rfl (by show 6<7;decide) ?_;exact go _ _ (c2.trans (c2.C.qM Y.gen Y.ep Y.nx false))
  ·simp only[h0,aH,aB,Aa]
   rw[Ax (l:=(Me.nil 0).cells) rfl];exact stop 40
end
end
section
theorem Ex.same(C:Ex h B X F)(sm:iG h h'):Ex h' B X F:=
 ⟨C.M.same sm,by rw[sm.get];exact C.core,by rw[sm.get];exact C.ar,C.map.frame (sm.get _) (sm.get _) (sm.get _),C.wf,C.out,sm.hb C.hb⟩
theorem ES(a b c d:Int)(f:bl.length=32):iT (Df [(0,1),(1,1),(2,1),(3,1),(4,1),(5,1),(6,32)]) [(0,I a),(1,I b),(2,I c),(3,I d),(6,.agg (Bh bl))] En.zero.cells=some (⟨a,b,c,d,0,0,bl⟩:En).cells:=by
 have hs:=qS [I a,I b,I c,I d,I 0,I 0] (Bh D8) (Bh bl) (by rw[Bf,Bf,f,mK]);rw[<-Vg]at hs;show Bb (Nat.beq (Fw (Bh bl)) 32) (oB (fun z=>some z) (Nl ([I a,I b,I c,I d,I 0,I 0]++Bh D8) 6 (Bh bl))) none=_;rw[Be,Bf,f,cP,Aj];rw[show(6:Nat) = [I a,I b,I c,I d,I 0,I 0].length from rfl,hs];rfl
section
variable (A:Ca disp)(hK:10000<K)(C:Ex h B X F)
include C
theorem tx {x:Me}(f:x.state=1->Vv x.Am/\Vv x.Bw)(j:Int):Gy (J1 K (.ptr B.b 0) (I j) (.agg x.cells) h) h B X F:=by
 refine Ok.mono (zN (K:=K) C.sm C.map C.hb f j) ?_;rintro _ h' ⟨rfl,m,c,a⟩;exact⟨_,_,rfl,C.YF m c a⟩
include A hK
theorem μ(hd:22<=d){v5:Nat}{x:Me}(g5:h.get v5=some (.cells x.cells 87))(r:Vv x.Am/\Vv x.Bw)(j:Int):
 Gy (Y0 (Ag TT disp K d false) (Ag TT disp K d true) K (.ptr B.c 0) (I j) (.ptr v5 0) h) h B X F:=by
 have lc:=C.hb _ _ C.core;have l5:=C.hb _ _ g5;simp only[Y0,Aa];rw[I6 lc,C.hH];simp only[Aa,Ar];rw[I6 l5,Cd g5 rfl (Ai (n:=6) rfl)];simp only[Aa,Ar];refine Ok.bC (S:=fun j=>¬B.fr F j) (ν A hK (d:=d) a_ C.lift.M C.lift.hb r.1 r.2) (fun _ _ p=>p.2.2.2.1) ?_;rintro _ ao h2 s' ⟨rfl,f,M',_,u⟩ sm ch E;have c2:=C.Jb (M'.same sm) ch (sm.hb u) (XO _ x);generalize X.S.read x=P at c2 f⊢;obtain⟨S',bl,er⟩:=P;simp only at c2 f⊢;generalize ({ X with S:=S' }:Co)=Y at c2⊢;have ul:(Bh bl).length=32:=by rw[Bf,f.1]
 simp only[Aa];rw[Hc (by rcases E with rfl|⟨w,rfl,_⟩<;>kernel_rfl)];refine Ok.st (Bh bl) (Ad _ _) rfl (by show Fw (Bh bl)=32;rw[Be,ul]) (Bl (by rw[bW];exact ul.symm)) ?_;obtain⟨h3,e_,x3,g7,_⟩:=nP h2 (.cells (List.replicate 32 (EV.int .u8 0)) 81) (.cells (Bh bl) 81);rw[e_];have c3:=c2.trans (c2.C.gU x3);simp only[I,Ac];by_cases h0:er=0
 ·simp only[h0,aB,Aa,ET]
  have G:=c3.hb _ _ c3.C.core;have l7:=c3.hb _ _ g7;rw[I6 G,c3.C.j6];simp only[Aa,Ar];rw[I6 l7,Cd g7 rfl (Ai ul)];simp only[Aa,Ar];have fe:=ES 3 Y.nx 1 j f.1;rw[<-En.Ii]at fe;rw[show(EV.int .i64 3)=I 3 from rfl,show(EV.int .i64 1)=I 1 from rfl,show(EV.int .i64 j)=I j from rfl,Ax fe];refine Ok.bC (S:=fun j=>¬F j) (wO A hK (d:=d) a_ (⟨f.1,f.2⟩:(⟨3,Y.nx,1,j,0,0,bl⟩:En).Wf) c3.C.lift) (fun _ _ p=>by obtain⟨_,_,_,p⟩:=p;exact p.c.k) ?_;rintro _ az h4 s2 ⟨x2,e2,Z,p⟩ J O U;have pv:=p.v;subst pv;have c4:Gr h3 h4 B Y F Z:=⟨p.c.C.same J,O,p.c.ck⟩;have c4:=c3.trans c4;simp only[Aa,I];rw[Hc (by rcases U with rfl|⟨w,rfl,_⟩<;>kernel_rfl)];refine Ok.mk rfl rfl fun h5 x5 g9 _=>?_
  have a:=c4.trans (c4.C.gU x5);simp only[Ac];by_cases h0:e2=0
  ·simp only[h0,aC,aA,Aa,EU]
   have V:=a.hb _ _ a.C.core;have l9:=a.hb _ _ g9;rw[I6 V,a.C.jh];simp only[Aa,Ar];rw[I6 l9,Cd g9 rfl (Ai (n:=6) rfl)];simp only[Aa,Ar];refine Ok.bC (S:=fun j=>¬F j) (tx (K:=K) a.C.lift (fun _=>p.r) j) (fun _ _ p=>by obtain⟨_,_,_,p⟩:=p;exact p.k) ?_;rintro _ a6 h6 s3 ⟨e6,W,rfl,c6⟩ aa ab _;exact Gy.ret (a.trans ⟨c6.C.same aa,ab,c6.ck⟩)
  ·simp only[h0,aH,aB,Aa]
   exact Gy.ret a
 simp only[h0,aA,Aa,Ac];by_cases t:er=41
 ·simp only[t,aB,Aa]
  rw[c3.C.jh,Ax (l:=(Me.nil 2).cells) rfl];refine Gy.then c3 (tx (K:=K) c3.C (x:=Me.nil 2) (fun y=>by cases y) j) fun e4 h4 Z c4=>?_
  exact Gy.ret c4
 ·simp only[t,aA,Aa]
  exact Gy.ret c3
theorem EW(hd:23<=d)(j:Int):Gy (Ag TT disp K d false 84 [.ptr B.c 0,I j] h) h B X F:=by
 obtain⟨e,rfl⟩:=d_ d;rw[ξ A a_];simp only[EX,Aa];rw[C.jh];refine Ok.Al (pa (K:=K) C.sm C.map C.hb j) ?_;rintro _ h2 ⟨rfl,a⟩;have rg:=wJ C.sm (wg C.map.ok j);have c2:=C.gU a;simp only[Aa];generalize (h_ X.es j).1=x at rg⊢;refine Ok.mk rfl rfl fun h3 f e3 _=>?_
 have c3:=c2.trans (c2.C.gU f);rw[Ak e3 rfl (v:=I x.state) rfl];simp only[I,Ac];by_cases h1:x.state=1
 ·simp only[h1,aC,aA,Aa]
  exact Gy.from c3 (μ A hK c3.C (d:=e) a_ e3 rg j)
 ·simp only[h1,aH,aB,Aa]
  exact Gy.ret c3
end
end
section
theorem Gr.less{G:Nat->Prop}(c:Gr h h' B X G Y)(s:∀i,F i->G i):Gr h h' B X F Y:=⟨c.C.less s,c.k.less s,c.ck⟩
section
variable (A:Ca disp)(hK:10000<K)(C:Ex h B X F)
include A hK
theorem ο(hd:23<=d){s:EV}{L:List Nat}(hL:L.length<=256)(p:0<L.length->F q):∀(f i:Nat) (h1:Ab) (Y:Co),L.length-i<f->i<=L.length->Gr h h1 B X F Y->Bu h1 s q 3 1 L.length (L.map nI) ->
 Gy (L9 (Ag TT disp K d false) (Ag TT disp K d true) K f (.ptr B.c 0) s (I L.length) (I i) h1) h B X F:=by
 intro f;induction f with
 | zero=>intro i h1 Y t;omega
 | succ f u=>
  intro i h1 Y t E c1 row;rw[L9];simp only[I,Ac];by_cases a:i<L.length
  ·have:decide ((i:Int)<(L.length:Int))=true:=by simp;omega
   simp only[this,Aa,EY];have ix:=row.ix a .i64;rw[ix,cD,Ak (row.block a_) rfl (v:=I (L[i]:Int)) (by rw[aY,aF a];rfl)];refine Ok.Al (EW A hK c1.C hd (L[i]:Int)) ?_;rintro _ h2 ⟨e2,Z,rfl,c2⟩;simp only[I,Ac];by_cases h0:e2=0
   ·have bl:=hL
    simp only[h0,aC,aA,Aa,EZ,Ac];rw[Ci,show((i:Nat):Int)+1=((i+1:Nat):Int) from a_];exact u (i+1) h2 Z a_ a_ (c1.trans c2) (row.frame fun y=>c2.k.get _ (c1.hb _ _ (row.block y)) fun w=>w (p y))
   ·simp only[h0,aH,aB,Aa]
    exact Gy.ret (c1.trans c2)
  ·have:decide ((i:Int)<(L.length:Int))=false:=by simp;omega
   simp only[this,Aa,E_];refine Gy.then c1 (tw A hK c1.C (d:=d)) fun e2 h2 Z c2=>Gy.ret c2
include C
theorem FC(hd:24<=d){z:Int}(u:Vv z):Gy (Ag TT disp K d false 48 [.ptr B.c 0,I z] h) h B X F:=by
 obtain⟨e,rfl⟩:=d_ d;rw[π A a_];simp only[FD,Aa];refine Ok.Al (tt A hK C (d:=e) a_ u) ?_;rintro _ h2 ⟨rfl,E⟩;have c2:=C.rd E;cases X.closed z with
 | false=>
  simp only[Aa];exact Gy.ret c2
 | true=>
 simp only[Aa,FE];refine Ok.Al (ZR A hK c2.C (d:=e) a_ z) ?_;rintro v h3 ⟨f,q,row,lq⟩;have bl:=DZ z X.es X.es.length;have el:=C.EC;generalize jD z X.es X.es.length=L at row lq bl⊢;rw[row.Fz];have G:Ex h3 B X (fun i=>F i\/(0<L.length/\i=q)):=by
  obtain⟨⟨T,k,t⟩,_⟩:=f;refine(c2.C.kp k).less fun i a=>?_
  rcases a with a|⟨p,rfl⟩
  ·exact .inl a
  ·exact .inr ⟨lq p,(k.chg.hb c2.C.hb) _ _ (row.block p)⟩
 have:=ο A hK (d:=e) a_ (F:=fun i=>F i\/(0<L.length/\i=q)) (s:=v) (q:=q) (L:=L) a_ (fun y=>.inr ⟨y,rfl⟩) K 0 h3 X a_ a_ (Gr.refl G) row;refine Ok.mono this ?_;rintro _ h4 ⟨e4,Y,rfl,c4⟩;have c4:=c4.less (F:=F) fun i=>.inl
 exact⟨e4,Y,rfl,(c2.trans (c2.C.rd f)).trans c4⟩
theorem FF(a:∀(n:Int) h',Ext h h'->Ok (k (.int .i64 n) h') Q):Ok (Al (Cq K (.ptr B.m 0) h) fun v h=>Al (I9 K v h) k) Q:=
 YT hK C.M C.hb fun h' x=>a _ h' x
theorem ς {d:Int}:Vv (X.Q6 (X.S.g.D*X.S.g.Z).toNat):=by
 have b:=X.wK (X.S.g.D*X.S.g.Z).toNat;have:=C.sm.jO;exact⟨a_,a_⟩
theorem τ(hd:25<=d):Ok (Ag TT disp K d false 87 [.ptr B.c 0] h) fun v h'=>∃(b:Bool) (e:Int) (Y:Co),v=.tuple [.bool b,I e]/\Gr h h' B X F Y:=by
 obtain⟨e,rfl⟩:=d_ d;rw[υ A a_];simp only[FH,Aa];refine Ok.Al (YY A hK C (d:=e) a_) ?_;rintro _ h2 ⟨⟨b,rfl⟩,p⟩;have c2:=C.rd p;cases b with
 | true=>
  simp only[Aa];refine Ok.Al (tw A hK c2.C (d:=e)) ?_;rintro _ h3 ⟨e3,Y,rfl,c3⟩;exact .ret ⟨true,e3,Y,rfl,c2.trans c3⟩
 | false=>
  simp only[Aa,FI];refine Ok.Al (ZU A hK c2.C (d:=e) a_) ?_;rintro _ h3 ⟨rfl,t⟩;have c3:=c2.trans (c2.C.rd t);have a:=ς A hK C (d:=0);generalize X.Q6 (X.S.g.D*X.S.g.Z).toNat=z at a⊢;simp only[I,Ac];by_cases f:z = -1
  ·simp only[f,aB,Aa]
   exact .ret ⟨false,0,X,rfl,c3⟩
  ·simp only[f,aA,Aa,FJ]
   refine Ok.Al (FC A hK c3.C (d:=e) a_ a) ?_;rintro _ h4 ⟨e4,Y,rfl,c4⟩;exact .ret ⟨true,e4,Y,rfl,c3.trans c4⟩
theorem wP(c1:Gr h h1 B X F Y)(n:Int)(d:Nat):Gy (Rz (Ag TT disp K d false) (Ag TT disp K d true) K (.ptr B.c 0) (I n) h1) h B X F:=by
 simp only[Rz,Aa];rw[c1.C.hH];refine FF A hK c1.C fun p h2 t=>?_
 have c2:=c1.trans (c1.C.gU t);have u:Fa (.tuple []) false=false/\Fa (.tuple []) true=false:=⟨rfl,rfl⟩;simp only[I,Ac];by_cases a:p=0
 ·simp only[a,aB,Aa,Ac]
  by_cases f:0<n
  ·simp only[f,aB,Se,Aa]
   exact Gy.ret c2
  ·simp only[f,aA,Se,Aa,Xj]
   exact Gy.ret c2
 ·simp only[a,aA,Aa,Ac,Se,Xj]
  exact Gy.ret c2
theorem φ(hd:25<=d)(n:Int){N:Nat}(M:N<=5000):∀(f i:Nat) (h1:Ab) (Y:Co),N-i<f->i<=N->Gr h h1 B X F Y ->
 Gy (Nx (Ag TT disp K d false) (Ag TT disp K d true) K f (.ptr B.c 0) (I n) (I N) (I i) h1) h B X F:=by
 intro f;induction f with
 | zero=>intro i h1 Y u;omega
 | succ f y=>
  intro i h1 Y u O c1;rw[Nx];simp only[I,Ac];by_cases E:i<N
  ·have:decide ((i:Int)<(N:Int))=true:=by simp;omega
   simp only[this,Aa,FK];rw[c1.C.hH];refine FF A hK c1.C fun p h2 G=>?_
   have c2:=c1.trans (c1.C.gU G);simp only[Ac];by_cases t:n<=p
   ·simp only[t,aB,Aa]
    exact Gy.ret c2
   simp only[t,aA,Aa,FL];refine Ok.Al (τ A hK c2.C hd) ?_;rintro _ h3 ⟨b,e,Z,rfl,c3⟩;have c3:=c2.trans c3;have J:Fa (.tuple []) false=false/\Fa (.tuple []) true=false:=⟨rfl,rfl⟩;simp only[Aa,I,Ac];by_cases a:e=34
   ·simp only[a,aB,Aa]
    exact Gy.ret c3
   simp only[a,aA,Aa,FM];cases b with
   | false=>
    simp only[Aa,Ac,Sp];exact wP A hK C c3 n d
   | true=>
    simp only[Aa,Ac];by_cases h0:e=0
    ·simp only[h0,aC,aA,Aa,Ac,Sp,FN]
     rw[Ci,show((i:Nat):Int)+1=((i+1:Nat):Int) from a_];exact y (i+1) h3 Z a_ a_ c3
    ·simp only[h0,aH,aB,Aa,Ac,Sp]
     exact wP A hK C c3 n d
  ·have:decide ((i:Int)<(N:Int))=false:=by simp;omega
   simp only[this,Aa];exact wP A hK C c1 n d
theorem FO(hd:26<=d)(n:Int):Gy (Ag TT disp K d false 49 [.ptr B.c 0,I n] h) h B X F:=by
 obtain⟨e,rfl⟩:=d_ d;rw[χ A a_];simp only[FP,Aa,I,Ac];have a:Fa (.tuple []) false=false/\Fa (.tuple []) true=false:=⟨rfl,rfl⟩;by_cases h0:n<0
 ·simp only[h0,aB,Aa,Ac,P8]
  exact Gy.ret (Gr.refl C)
 simp only[h0,aA,Aa,Ac];rw[C.hH];refine qO A C fun h2 f=>?_
 have c2:=C.gU f;simp only[I,Ac];by_cases h1:X.S.g.D*X.S.g.Z<n
 ·simp only[h1,aB,Aa,Ac,P8]
  exact Gy.ret c2
 simp only[h1,aA,Aa,Ac,P8,FQ];rw[c2.C.hH];refine qO A c2.C fun h3 p=>?_
 have c3:=c2.trans (c2.C.gU p);have bd:=C.sm.jO;obtain⟨N,t⟩:=bL (show 0<=2*(X.S.g.D*X.S.g.Z) from a_);simp only[I,Ac];rw[Ci,t];exact φ A hK C (d:=e) a_ n a_ K 0 h3 X a_ a_ c3
theorem wQ(hd:27<=d:=by omega):Gy (Ag TT disp K d false 68 [.ptr B.c 0] h) h B X F:=by
 obtain⟨e,rfl⟩:=d_ d;rw[ψ A a_];simp only[FR,Aa];rw[C.hH];refine Ok.Al (P7 (K:=K) C.M C.hb) ?_;rintro _ h2 ⟨rfl,a⟩;rw[FU C.sm,Aq];have c3:=C.gU (a.Da (.cells (gL X.S.g) 23));exact Gy.then c3 (FO A hK c3.C (d:=e) a_ _) fun e4 h4 Z c4=>Gy.ret c4
end
end
section
theorem C8.wS(M:C8 h m S F)(c:Aw T h h')(t:∀i,T i->i<h.next->F i):C8 h' m S (Bg F h h'):=by
 refine⟨(M.s.frame c.next fun i a=>c.get i a.1 fun y=>a.2 (t i y a.1)).mono (fun i a=>⟨aL a.1 c.next,fun y=>?_⟩) fun i a=>a.1,Bg.lt M.lt c.next,M.wf⟩;rcases y with y|y
 ·exact a.2 y
 ·have:=a.1;omega
theorem Ex.wS(C:Ex h B X F)(c:Aw T h h')(t:∀i,T i->i<h.next->F i)(f:HB h'):Ex h' B X (Bg F h h'):=by
 have p:=C.iv c t f;refine⟨(C.M.wS c fun i a u=>.inl (t i a u)).less fun i a=>?_,p.core,p.ar,p.map,C.wf,fun i a=>?_,f⟩
 ·rcases a with(a|a)|a
  ·exact .inl (.inl a)
  ·exact .inr a
  ·exact .inl (.inr a)
 ·rcases a with a|a
  ·exact C.out i a
  ·intro y
   have E:=C.hb _ _ C.core;have G:=C.hb _ _ C.ar;have a3:=C.hb _ _ C.map.map;have a4:=C.hb _ _ C.map.row;have J:=C.hb _ _ C.map.live;rcases y with y|y|y|y|y<;>omega
structure Wr where
 block:Int
 bytes:List Nat
def Wr.Wf(w:Wr):Prop:=w.bytes.length=32/\∀b∈w.bytes,b<256
def Wr.cells(w:Wr):List EV:=I w.block::Bh w.bytes
theorem Wr.len {w:Wr}(f:w.Wf):w.cells.length=33:=by unfold Wr.cells;rw[bP,Bf,f.1]
structure jP(h:Ab)(v:EV)(b:Nat)(L:List Wr):Prop where
 row:(v=.An/\L = [])\/∃off r op,v=.slice b off L.length r op/\∀j (hj:j<L.length) (k:EV->R),Oo 33 (.ptr b (off+j*33)) h k=k (.agg L[j].cells)
 wf:∀w∈L,w.Wf
theorem jP.frame{L:List Wr}(r:jP h v b L)(e:0<L.length->h'.get b=h.get b):jP h' v b L:=by
 refine⟨?_,r.wf⟩;rcases r.row with y|⟨off,a,op,rfl,y⟩
 ·exact .inl y
 ·refine .inr ⟨off,a,op,rfl,fun j hj k=>?_⟩
  have:=y j hj k;show oB _ (kx (h'.get b) _ 33)=_;rw[e a_];exact this
theorem jP.Fz{L:List Wr}(r:jP h v b L)(k:EV->R):Ev.Fz v k=k (I L.length):=by
 rcases r.row with⟨rfl,rfl⟩|⟨off,a,op,rfl,_⟩<;>rfl
theorem jP.at{L:List Wr}(r:jP h v b L)(hj:j<L.length)(k:EV->R):Ve 33 v (.int .i64 (j:Int)) (fun p=>Oo 33 p h k)=k (.agg L[j].cells):=by
 rcases r.row with⟨rfl,rfl⟩|⟨off,a,op,rfl,y⟩
 ·exact absurd hj (cT _)
 ·rw[Md hj];exact y j hj k
theorem wT: [EV.int .i64 0]++List.replicate 32 (EV.int .u8 0)=(⟨0,D8⟩:Wr).cells:=by kernel_rfl
theorem FV(C:Ex h B X F)(j:Int):Ok (Vj K (.ptr B.c 0) (I j) h) fun v h'=>v=.bool (decide (0<=j)&&decide (j<X.S.g.B))/\Ext h h':=by
 simp only[Vj,I,Ac,Aa];have a:Fa (.tuple []) false=false/\Fa (.tuple []) true=false:=⟨rfl,rfl⟩;by_cases h0:0<=j
 ·simp only[h0,aB,Aa,Ac]
  rw[C.hH];refine Ok.Al (P7 (K:=K) C.M C.hb) ?_;rintro _ h2 ⟨rfl,f⟩;unfold gV;rw[wL (v:=I X.S.g.B) rfl];simp only[I,Ac,Aa,wU];exact .ret ⟨by simp,f⟩
 ·simp only[h0,aA,Aa,Ac,wU]
  exact .ret ⟨rfl,Aw.refl _⟩
section
variable{L:List Wr}(fb:0<L.length->F b)(hL:L.length<=2000000)
include fb hL
theorem ω:∀(f i:Nat) (h:Ab),L.length-i<f->i<=L.length->Ex h B X F->jP h v b L ->
 Ok (Oc K f (.ptr B.c 0) v v (I L.length) (I i) h) fun w h'=>(∃ok:Bool,w=.bool ok/\(ok=true->L.length<=4))/\Ext h h':=by
 intro f;induction f with
 | zero=>intro i h u;omega
 | succ f E=>
  intro i h u U C W;rw[Oc];simp only[I,Ac];by_cases p:i<L.length
  ·have:decide ((i:Int)<(L.length:Int))=true:=by simp;omega
   simp only[this,Aa,FW];rw[W.at p];have wf:=W.wf _ (aZ p);generalize L[i]=w at wf⊢;have wl:=Wr.len wf
   try simp only[Aa]
   rw[wT];refine Ok.mk rfl wl fun h3 t e3 _=>?_
   rw[Ak e3 rfl (v:=I w.block) rfl];refine Ok.Al (FV (K:=K) (C.gU t).C w.block) ?_;rintro _ h4 ⟨rfl,G⟩;have x:=t.trans G;cases(decide (0<=w.block)&&decide (w.block<X.S.g.B))with
   | false=>
    simp only[Aa];exact .ret ⟨⟨_,rfl,fun y=>by cases y⟩,x⟩
   | true=>
    simp only[Aa,FX,Ac];rw[Ci,show((i:Nat):Int)+1=((i+1:Nat):Int) from a_];refine Ok.mono (E (i+1) h4 a_ a_ (C.gU x).C (W.frame fun y=>x.get _ (C.M.lt _ (.inl (fb y))) id)) ?_;rintro w V ⟨a,J⟩;exact⟨a,x.trans J⟩
  ·have:decide ((i:Int)<(L.length:Int))=false:=by simp;omega
   have O:Fa (.tuple []) false=false/\Fa (.tuple []) true=false:=⟨rfl,rfl⟩;simp only[this,Aa,FY];rw[W.Fz];simp only[I,Ac];by_cases h1:1<=(L.length:Int)
   ·simp only[h1,aB,Aa,Ac]
    rw[W.Fz];simp only[I,Ac,Yl,Aa];exact .ret ⟨⟨_,rfl,fun y=>by have:=cX y;omega⟩,Aw.refl _⟩
   ·simp only[h1,aA,Aa,Ac,Yl]
    exact .ret ⟨⟨_,rfl,fun y=>by cases y⟩,Aw.refl _⟩
end
structure FZ(h:Ab)(s:EV)(q:Nat)(xs:List Me):Prop where
 row:Bu h s q 87 6 xs.length (xs.map Me.cells).flatten
 rng:∀x∈xs,Vv x.Am/\Vv x.Bw
section
variable (A:Ca disp)(hK:10000<K){L:List Wr}(fb:0<L.length->F b)(hL:L.length<=4)
include A hK fb hL
theorem Α{s:EV}{xs:List Me}(hx:L.length<=xs.length)(fq:0<xs.length->F q):∀(f i:Nat) (h1:Ab) (Y:Co),L.length-i<f->i<=L.length->Gr h h1 B X F Y->jP h1 v b L->FZ h1 s q xs ->
 Gy (Jq (Ag TT disp K d false) (Ag TT disp K d true) K f (.ptr B.c 0) s v (I L.length) (I i) h1) h B X F:=by
 intro f;induction f with
 | zero=>intro i h1 Y hf;omega
 | succ f ih=>
  intro i h1 Y hf hi c1 W P;rw[Jq];simp only[I,Ac];by_cases u:i<L.length
  ·have:decide ((i:Int)<(L.length:Int))=true:=by simp;omega
   simp only[this,Aa,F_];rw[W.at u];have wf:=W.wf _ (aZ u);generalize L[i]=w at wf⊢;have wl:=Wr.len wf
   try simp only[Aa]
   rw[wT];refine Ok.mk rfl wl fun h3 J e3 _=>?_
   have c3:=c1.trans (c1.C.gU J);have lc:=c3.hb _ _ c3.C.core;have l3:=c3.hb _ _ e3;have hq:0<xs.length:=a_
   have a:=P.row.frame (h':=h3) fun y=>J.get _ (c1.hb _ _ (P.row.block y)) id
   have lq:=c3.hb _ _ (a.block hq);have t:i<xs.length:=a_
   rw[I6 lc,c3.C.jh];simp only[Aa,Ar];rw[I6 l3,Ak e3 rfl (v:=I w.block) rfl];simp only[Aa,Ar];have ix:=a.ix t .i64;rw[ix,I6 lq,Cd (a.block hq) rfl (sQ xs t)];simp only[Aa,Ar];have rg:=P.rng _ (aZ t);refine Ok.bC (S:=fun j=>¬F j) (tx (K:=K) c3.C.lift (fun _=>rg) w.block) (fun _ _ p=>by obtain⟨_,_,_,p⟩:=p;exact p.k) ?_;rintro _ ah O s3 ⟨e6,Z,rfl,c6⟩ U V _;have E:Gr h3 O B Y F Z:=⟨c6.C.same U,V,c6.ck⟩;simp only[GA,Ac];rw[Ci,show((i:Nat):Int)+1=((i+1:Nat):Int) from a_];have G:∀j,F j->O.get j=h1.get j:=fun j hj=>by
    have l:=c1.C.M.lt _ (.inl hj);rw[E.k.get _ (aL l J.next) fun y=>y hj,J.get _ l id]
   exact ih (i+1) O Z a_ a_ (c3.trans E) (W.frame fun y=>G _ (fb y)) ⟨P.row.frame fun y=>G _ (fq y),P.rng⟩
  ·have:decide ((i:Int)<(L.length:Int))=false:=by simp;omega
   simp only[this,Aa,We];exact Gy.ret c1
theorem Β(hd:22<=d)(G:∀j,F j->j<h.next)(first:Int):∀(f i:Nat) (h1:Ab) (Y:Co) (s:EV) (q:Nat) (xs:List Me),L.length-i<f->i<=L.length->xs.length=i->Gr h h1 B X F Y->Ex h1 B Y (fun j=>F j\/(0<xs.length/\j=q))->(0<xs.length->h.next<=q)->jP h1 v b L->FZ h1 s q xs ->
 Gy (Iy (Ag TT disp K d false) (Ag TT disp K d true) K f (.ptr B.c 0) v (I first) s v (I L.length) (I i) h1) h B X F:=by
 intro f;induction f with
 | zero=>intro i h1 Y s q xs hf;omega
 | succ f ih=>
  intro i h1 Y s q xs hf hi a5 c1 C1 hq W P;rw[Iy];simp only[I,Ac];have ah:∀j,F j->j<h1.next:=fun j hj=>c1.C.M.lt _ (.inl hj)
  by_cases J:i<L.length
  ·have:decide ((i:Int)<(L.length:Int))=true:=by simp;omega
   simp only[this,Aa,GB];rw[W.at J];have wf:=W.wf _ (aZ J);generalize L[i]=w at wf⊢;have wl:=Wr.len wf
   try simp only[Aa]
   rw[wT];refine Ok.mk rfl wl fun h3 x3 e3 _=>?_
   rw[W.Fz]
   try simp only[Aa]
   rw[Ak e3 rfl (v:=I w.block) rfl]
   try simp only[Aa]
   rw[Cd e3 rfl (show Ke w.cells 1 32=some (Bh w.bytes) by
    rw[E4 a_];unfold Wr.cells;rw[List.drop_succ_cons,dK,bK (by rw[Bf,wf.1];omega)])]
   have fe:=ES 1 first L.length w.block wf.1
   rw[<-En.Ii]at fe;rw[show(EV.int .i64 1)=I 1 from rfl,show(EV.int .i64 first)=I first from rfl,Ax fe];have C3:=(C1.gU x3).C;have p0:=wO A hK hd (⟨wf.1,wf.2⟩:(⟨1,first,L.length,w.block,0,0,w.bytes⟩:En).Wf) C3;refine Ok.Al p0 ?_;rintro _ h4 ⟨x,er,Z,⟨rfl,rg,c4⟩⟩;have t:Gr h1 h4 B Y (fun j=>F j\/(0<xs.length/\j=q)) Z:=(C1.gU x3).trans c4;have O:Gr h h4 B X F Z:=c1.trans (t.less fun j=>.inl);simp only[Aa];refine Ok.mk rfl rfl fun E x5 e5 _=>?_
   have p:=O.trans (O.C.gU x5);have u:=t.trans (t.C.gU x5);have U:∀j,(F j\/(0<xs.length/\j=q))->j<h1.next->E.get j=h1.get j:=fun j hj l=>u.k.get _ l fun y=>y hj
   simp only[I,Ac];by_cases h0:er=0
   case neg=>
    simp only[h0,aH,aB,Aa];exact Gy.ret p
   simp only[h0,aC,aA,Aa,GC];rw[Cd e5 rfl (Ai (n:=6) rfl)];have V:=P.row.frame (h':=E) fun y=>U _ (.inr ⟨y,rfl⟩) (c1.hb _ _ (P.row.block y))
   have aa:=p.hb;refine Kv (z:=[.int .i64 0,.int .i64 0,.int .i64 0,.int .i64 0,.int .i64 0,.int .i64 0]) (v:=.agg x.cells) V aa rfl rfl rfl a_ a_ fun h6 ad ba c6=>?_
   have aj:=c6.hb aa;have C6:=u.C.wS c6 (fun j hj hl=>.inr ⟨hj.1,hj.2⟩) aj;have al:Ex h6 B Z (fun j=>F j\/(0<(xs++[x]).length/\j=E.next+1)):=C6.less fun j hj=>by
    rcases hj with hj|⟨_,rfl⟩
    ·exact .inl (.inl hj)
    ·exact .inr ⟨a_,a_⟩
   have ae:Kf F E h6:=c6.mono fun j hj y=>by
    have a:=G j y;have b:=hq hj.1;have e:=hj.2;omega
   have ao:Gr h h6 B X F Z:=p.trans ⟨C6.less fun j hj=>.inl (.inl hj),ae,Ck.refl _⟩;have aq:∀j,F j->h6.get j=h1.get j:=fun j hj=>by
    have l:=ah j hj;have l5:=aL l u.k.next
    rw[ae.get _ l5 (fun y=>y hj)];exact U _ (.inl hj) l
   simp only[GD,Ac];rw[Ci,show((i:Nat):Int)+1=((i+1:Nat):Int) from a_];have lx:(xs++[x]).length=xs.length+1:=by simp
   have az:=p.k.next
   have:=ih (i+1) h6 Z (.slice (E.next+1) 0 (xs.length+1) (xs.length+1) true) (E.next+1) (xs++[x]) a_ a_ a_ ao al (fun _=>by omega) (W.frame fun y=>aq _ (fb y)) ⟨by rw[lx,bZ,cm,show([x].map Me.cells).flatten=(EV.agg x.cells).cells by simp[EV.cells]];exact ad,fun z hz=>by
    rcases bO.1 hz with hz|hz
    ·exact P.rng z hz
    ·rw[aP.1 hz];exact rg⟩
   exact this
  ·have:decide ((i:Int)<(L.length:Int))=false:=by simp;omega
   simp only[this,Aa,Vx];rw[W.Fz];have w:=Α A hK (X:=Y) (F:=fun j=>F j\/(0<xs.length/\j=q)) (v:=v) (b:=b) (L:=L) (fun y=>.inl (fb y)) hL (d:=d) (s:=s) (q:=q) (xs:=xs) a_ (fun y=>.inr ⟨y,rfl⟩) K 0 h1 Y a_ a_ (Gr.refl C1) W P;refine Ok.mono w ?_;rintro _ h2 ⟨e2,Z,rfl,c2⟩;exact⟨e2,Z,rfl,c1.trans (c2.less fun j=>.inl)⟩
end
theorem Γ(A:Ca disp)(hK:3000000<K){L:List Wr}(fb:0<L.length->F b)(hL:L.length<=2000000)(hd:28<=d)(C:Ex h B X F)(W:jP h v b L):Gy (Ag TT disp K d false 29 [.ptr B.c 0,v] h) h B X F:=by
 obtain⟨e,rfl⟩:=d_ d;rw[Δ A a_];simp only[GF,Xz,Aa];rw[W.Fz];refine Ok.Al (ω (K:=K) fb hL K 0 h a_ a_ C W) ?_;rintro _ h2 ⟨⟨ok,rfl,hok⟩,p⟩;have c2:=C.gU p;cases ok with
 | false=>
  simp only[Aa];exact Gy.ret c2
 | true=>
 have f:=hok rfl;simp only[Aa,GG];refine Ok.Al (wQ A a_ c2.C (d:=e)) ?_;rintro _ h3 ⟨e3,Y,rfl,c3⟩;have a:=c2.trans c3;simp only[I,Ac];by_cases h0:e3=0
 case neg=>
  simp only[h0,aH,aB,Aa];exact Gy.ret a
 simp only[h0,aC,aA,Aa,GH];rw[a.C.j6];have W3:jP h3 v b L:=W.frame fun y=>a.k.get _ (C.M.lt _ (.inl (fb y))) fun w=>w (fb y)
 rw[W3.Fz];exact Β A a_ (F:=F) (h:=h) fb f (d:=e) a_ (fun j hj=>C.M.lt _ (.inl hj)) Y.nx K 0 h3 Y .An 0 [] a_ a_ rfl a (a.C.less fun j hj=>hj.elim id fun y=>absurd y.1 (bU 0)) (fun y=>absurd y (bU 0)) W3 ⟨Bu.nil _ _ _ _,fun x t=>by cases t⟩
end
variable {L:List Wr}
section
theorem Ε(seq block many:Int):iT (Df [(0,1),(1,1),(2,1),(3,1),(4,1),(5,1),(6,32)]) [(0,I 2),(1,I seq),(2,I 1),(3,I block),(4,I many)] En.zero.cells=some (⟨2,seq,1,block,many,0,D8⟩:En).cells:=rfl
theorem Ζ:∀b∈D8,b<256:=fun b hb=>by rw[cC hb];decide
section
variable (A:Ca disp)(hK:10000<K)(C:Ex h B X F)
include A hK
omit A hK in
theorem Η {block many:Int}(b0:0<=block/\block<=1000)(G:0<=many/\many<=1000):∀(f:Nat) (b:Int) (h1:Ab) (Y:Co),block+many-b<f->block<=b->b<=block+many->Gr h h1 B X F Y ->
 Gy (Om (Ag TT disp K d false) (Ag TT disp K d true) K f (.ptr B.c 0) (I block) (I many) (I b) h1) h B X F:=by
 intro f;induction f with
 | zero=>intro b h1 Y p;omega
 | succ f t=>
  intro b h1 Y p u E c1;rw[Om];simp only[I,Ac];rw[Ci (n:=block+many)];by_cases a:b<block+many
  ·simp only[a,aB,Aa,GI]
   rw[c1.C.jh,Ax (l:=(Me.nil 0).cells) rfl];refine Gy.then c1 (tx (K:=K) c1.C (x:=Me.nil 0) (fun y=>by cases y) b) fun e2 h2 Z c2=>?_
   simp only[GJ,Ac];rw[Ci];exact t (b+1) h2 Z a_ a_ a_ c2
  ·simp only[a,aA,Aa,GK]
   exact Gy.ret c1
include C
theorem Θ(hd:28<=d)(block many:Int):Gy (Ag TT disp K d false 45 [.ptr B.c 0,I block,I many] h) h B X F:=by
 obtain⟨e,rfl⟩:=d_ d;have:=C.sm.b1;rw[Ι A a_];simp only[GL,Aa];refine Ok.Al (FV (K:=K) C block) ?_;rintro _ h2 ⟨rfl,u⟩;have c2:=C.gU u;have y:Fa (.tuple []) false=false/\Fa (.tuple []) true=false:=⟨rfl,rfl⟩;cases E:(decide (0<=block)&&decide (block<X.S.g.B))with
 | false=>
  simp only[Aa,Ac,So,Ov];exact Gy.ret c2
 | true=>
 simp only[bD,av]at E;simp only[Aa,Ac,I];by_cases h1:many<1
 ·simp only[h1,aB,Aa,Ac,So,Ov]
  exact Gy.ret c2
 simp only[h1,aA,Aa,Ac,So];rw[c2.C.hH];refine Ok.Al (P7 (K:=K) c2.C.M c2.hb) ?_;rintro _ h3 ⟨rfl,G⟩;have c3:=c2.trans (c2.C.gU G);unfold gV;rw[wL (v:=I X.S.g.B) rfl];simp only[I,Ac];rw[Ci];by_cases h4:X.S.g.B-block<many
 ·simp only[h4,aB,Aa,Ac,Ov]
  exact Gy.ret c3
 simp only[h4,aA,Aa,Ac,Ov,GM];refine Ok.Al (wQ A hK c3.C (d:=e)) ?_;rintro _ V ⟨e5,Y,rfl,a⟩;have a:=c3.trans a;simp only[I,Ac];by_cases h0:e5=0
 case neg=>
  simp only[h0,aH,aB,Aa];exact Gy.ret a
 simp only[h0,aC,aA,Aa,GN];rw[a.C.j6];have p:=Ε Y.nx block many;rw[<-En.Ii]at p;simp only[I]at p⊢;rw[Ax p];refine Ok.Al (wO A hK (d:=e) a_ (⟨mK,Ζ⟩:(⟨2,Y.nx,1,block,many,0,D8⟩:En).Wf) a.C) ?_;rintro _ W ⟨x,J,Z,⟨rfl,rg,f⟩⟩;have f:=a.trans f;simp only[Aa];refine Ok.mk rfl rfl fun O U _ _=>?_
 have t:=f.trans (f.C.gU U);simp only[I,Ac];by_cases h0:J=0
 case neg=>
  simp only[h0,aH,aB,Aa];exact Gy.ret t
 simp only[h0,aC,aA,Aa,GO];exact Η (K:=K) (d:=e) ⟨a_,a_⟩ ⟨a_,a_⟩ K block O Z a_ a_ a_ t
theorem GP(hd:28<=d)(j:Int):Gy (Ag TT disp K d false 46 [.ptr B.c 0,I j] h) h B X F:=by
 obtain⟨e,rfl⟩:=d_ d;rw[Κ A a_];simp only[GQ,Aa];rw[C.jh];refine Ok.Al (pa (K:=K) C.sm C.map C.hb j) ?_;rintro _ h2 ⟨rfl,f⟩;have c2:=C.gU f;simp only[Aa];generalize h_ X.es j=ge;obtain⟨x,p⟩:=ge;simp only;refine Ok.mk rfl rfl fun h3 t e3 _=>?_
 have c3:=c2.trans (c2.C.gU t);have u:Fa (.tuple []) false=false/\Fa (.tuple []) true=false:=⟨rfl,rfl⟩;simp only[I,Ac];by_cases h0:p=0
 case neg=>
  simp only[h0,aH,aB,Aa,Ac,Sh];exact Gy.ret c3
 simp only[h0,aC,aA,Aa,Ac];rw[Ak e3 rfl (v:=I x.state) rfl];simp only[I,Ac];by_cases h1:x.state=1
 case neg=>
  simp only[h1,aH,aB,Aa,Ac,Sh];exact Gy.ret c3
 simp only[h1,aC,aA,Aa,Ac,Sh,GR];refine Ok.Al (wQ A hK c3.C (d:=e)) ?_;rintro _ E ⟨e5,Y,rfl,a⟩;have a:=c3.trans a;simp only[I,Ac];by_cases h0:e5=0
 case neg=>
  simp only[h0,aH,aB,Aa];exact Gy.ret a
 simp only[h0,aC,aA,Aa,GS];exact Gy.then a (EW A hK a.C (d:=e) a_ j) fun e6 G Z y=>Gy.ret y
theorem Λ(hd:15<=d):Gy (Ag TT disp K d false 47 [.ptr B.c 0] h) h B X F:=by
 obtain⟨e,rfl⟩:=d_ d;rw[Μ A a_];simp only[GU,Aa];rw[C.hH];exact EH A hK C (d:=e) a_ fun h1 c1=>Gy.ret c1
theorem Ν(hd:29<=d)(j:Int):Ok (Ag TT disp K d false 32 [.ptr B.c 0,I j] h) fun v h'=>∃(bl:List Nat) (e:Int) (Y:Co),v=.tuple [.agg (Bh bl),I e]/\bl.length=32/\Gr h h' B X F Y:=by
 obtain⟨dd,rfl⟩:=d_ d;rw[Ξ A a_];simp only[GV,Aa];rw[Gq];obtain⟨h1,e_,x1,g4,n1⟩:=nW h (.cells (Bh D8) 81);rw[e_];have O:=C.ext x1;rw[O.jh];refine Ok.Al (pa (K:=K) O.sm O.map O.hb j) ?_;rintro _ h2 ⟨rfl,x2⟩;have rg:=wJ C.sm (wg C.map.ok j);simp only[Aa];generalize h_ X.es j=ge at rg⊢;obtain⟨x,er⟩:=ge;simp only at rg⊢;have a5:=x2.hb O.hb;refine Ok.mk rfl rfl fun h3 x3 e3 _=>?_
 have V:Ext h h3:=(x1.trans x2).trans x3;have f:=Ext.at (x2.trans x3) O.hb g4;have a6:=(x2.trans x3).next
 have a:=C.ext V;have f4:Bg F h h3 h.next:=.inr ⟨aD _,a_⟩
 have a7:Fa (.tuple []) false=false/\Fa (.tuple []) true=false:=⟨rfl,rfl⟩;have fin:∀(bl:List Nat) (e:Int) (h4:Ab) (Y:Co),bl.length=32->Gr h3 h4 B X (Bg F h h3) Y->h4.get h.next=some (.cells (Bh D8) 81)->Ok (Vz 32 (.ptr h.next 0) (.agg (Bh bl)) h4 fun h=>Gi TT [.c (.ptr (h1.next-1) 0) 81,.v (.int .i64 e)] h) fun v h'=>∃(bl:List Nat) (e:Int) (Y:Co),v=.tuple [.agg (Bh bl),I e]/\bl.length=32/\Gr h h' B X F Y:=by
  intro bl e h4 Y hl c4 W;have ul:(Bh bl).length=32:=by rw[Bf,hl]
  have l4:=c4.hb _ _ W;rw[show h1.next-1=h.next from a_];refine Ok.st (Bh bl) W rfl (by show Fw (Bh bl)=32;rw[Be,ul]) (Bl (by show(Bh D8).length=(Bh bl).length;rw[ul,Bf,mK])) ?_;rw[Du (Af _ _ _) ji.1 ji.2 ul];exact .ret ⟨bl,e,Y,rfl,hl,Gr.wM V c4 ((Aw.refl (S:=fun i=>i=h.next) h4).Ao (.inl rfl) l4 _) (fun i hi=>by subst hi;omega) (c4.hb.put l4 _)⟩
 rw[show h1.next-1=h.next from a_]at fin;have z:=fun e h4 Y c g=>fin D8 e h4 Y rfl c g
 have bz:∀k:EV->R,Bp (N8 1) (Bh D8) [] k=k (.agg (Bh D8)):=fun k=>Ax rfl
 simp only[I,Ac];by_cases h0:er=0
 case neg=>
  simp only[h0,aH,aB,Aa,Ac,Sj];rw[Gq,bz];exact z _ _ X (Gr.refl a) f
 simp only[h0,aC,aA,Aa,Ac];rw[Ak e3 rfl (v:=I x.state) rfl];simp only[I,Ac];by_cases ad:x.state=0
 ·simp only[ad,aB,Aa,Ac,Sj]
  rw[Gq,bz];exact z _ _ X (Gr.refl a) f
 simp only[ad,aA,Aa,Ac,Sj];rw[Ak e3 rfl (v:=I x.state) rfl];simp only[I,Ac];by_cases ae:x.state=2
 ·simp only[ae,aB,Aa,Ac]
  rw[Gq,bz];exact z _ _ X (Gr.refl a) f
 simp only[ae,aA,Aa,Ac,GW];have lc:=a.hb _ _ a.core;have l6:=a.hb _ _ e3;rw[I6 lc,a.hH];simp only[Aa,Ar];rw[I6 l6,Cd e3 rfl (Ai (n:=6) rfl)];simp only[Aa,Ar];refine Ok.bC (S:=fun j=>¬B.fr (Bg F h h3) j) (Ο A hK (d:=dd) a_ a.lift.M a.lift.hb rg.1 rg.2) (fun _ _ p=>p.2.2.2.1) ?_;rintro _ ba h4 s' ⟨rfl,bw,M',_,ao⟩ sm ch aq;have c4:=a.Jb (M'.same sm) ch (sm.hb ao) (XP _ x);generalize X.S.check x=P at c4 bw⊢;obtain⟨S',bl,n,er⟩:=P;simp only at c4 bw⊢;generalize ({ X with S:=S' }:Co)=Y at c4⊢;have ul:(Bh bl).length=32:=by rw[Bf,bw]
 simp only[Aa];rw[Hc (by rcases aq with rfl|⟨w,rfl,_⟩<;>kernel_rfl)];refine Ok.st (Bh bl) (Ad _ _) rfl (by show Fw (Bh bl)=32;rw[Be,ul]) (Bl (by rw[bW];exact ul.symm)) ?_;obtain⟨h5,e_,x5,g8,n5⟩:=nP h4 (.cells (List.replicate 32 (EV.int .u8 0)) 81) (.cells (Bh bl) 81);rw[e_];have U:=c4.trans (c4.C.gU x5);have G:=U.k.at a.hb f f4;simp only[I,Ac];by_cases h0:er=0
 case neg=>
  simp only[h0,aH,aB,Aa];rw[Gq,bz];exact z _ _ _ U G
 simp only[h0,aC,aA,Aa,GX,Ac];have u:∀y Z,Gr h3 y B X (Bg F h h3) Z->y.get h.next=some (.cells (Bh D8) 81)->y.get h4.next=some (.cells (Bh bl) 81)->Ok (Xy (Ag TT disp K dd false) (Ag TT disp K dd true) K (.ptr h.next 0) (.ptr h4.next 0) y) fun v h'=>∃(bl:List Nat) (e:Int) (Y:Co),v=.tuple [.agg (Bh bl),I e]/\bl.length=32/\Gr h h' B X F Y:=fun y Z E t J=>by
  simp only[Xy,dr];rw[Cd J rfl (Ai ul)];exact fin bl 0 y Z bw E t
 by_cases hn:n<2
 case neg=>
  simp only[hn,aA,Aa,Ac,Yc];exact u h5 _ U G g8
 simp only[hn,aB,Aa,Ac];have C5:Ex h5 B Y (fun i=>Bg F h h3 i\/i=h4.next):=(c4.C.ext x5).less fun i hi=>by
  rcases hi with hi|rfl
  ·exact .inl hi
  ·exact .inr ⟨aD _,a_⟩
 refine Ok.Al (GP A hK C5 (d:=dd) a_ j) ?_;rintro _ y ⟨e6,Z,rfl,E⟩;have t:=E.k.at U.hb G (.inl f4);have J:=E.k.at U.hb g8 (.inr rfl);have E:=U.trans (E.less fun i=>.inl);simp only[I,Ac,Yc];by_cases af:e6=34
 ·simp only[af,aB,Aa]
  rw[Gq,bz];exact z _ _ _ E t
 ·simp only[af,aA,Aa]
  exact u y _ E t J
end
end
theorem Ρ(hK:1000<K)(hb:HB h)(m:Nat):Ok (qT K (.ptr m 0) h) fun v h'=>v=.ptr h.next 0/\h'.get h.next=some (.cells (arC m (fun _=>-1) fun _=>-1) 126)/\Ext h h'/\HB h':=by
 obtain⟨t,rfl⟩:∃k,K=k+4:=⟨K-4,a_⟩;simp only[qT,dr];rw[Ax (l:=arC m (fun _=>0) fun _=>0) rfl];simp only[Aa];have u:Ext h (h.new (.cells (arC m (fun _=>0) fun _=>0) 126)):=Aw.new _ _;have y:(h.new (.cells (arC m (fun _=>0) fun _=>0) 126)).get h.next=some (.cells (arC m (fun _=>0) fun _=>0) 126):=Ad _ _
 have l1:h.next<(h.new (.cells (arC m (fun _=>0) fun _=>0) 126)).next:=aO _
 generalize h.new (.cells (arC m (fun _=>0) fun _=>0) 126)=h1 at u y l1⊢;have st:∀(i:Nat) (h2:Ab) (c o:Nat->Int) (n:Nat),i<3->h2.get h.next=some (.cells (arC m c o) 126)->Ext h h2->h.next<h2.next->(∀h3,h3.get h.next=some (.cells (arC m (Nd c i (-1)) (Nd o i (-1))) 126)->Ext h h3->h.next<h3.next->Ok (Tt (t+4) n (.ptr h.next 0) (I (i+1:Nat)) h3) fun v h'=>v=.ptr h.next 0/\h'.get h.next=some (.cells (arC m (fun _=>-1) fun _=>-1) 126)/\Ext h h'/\HB h')->Ok (Tt (t+4) (n+1) (.ptr h.next 0) (I i) h2) fun v h'=>v=.ptr h.next 0/\h'.get h.next=some (.cells (arC m (fun _=>-1) fun _=>-1) 126)/\Ext h h'/\HB h':=by
  intro i h2 c o n E f p a J;rw[Tt];simp only[I,Ac];have:decide ((i:Int)<3)=true:=by simp;omega
  simp only[this,Aa,GY];rw[Ax (l:=[I (-1),I (-1)]) rfl]
  try simp only[Aa]
  rw[Vo E];refine Ok.st _ f rfl rfl (wy E (-1) (-1)) ?_;simp only[GZ,Ac];rw[Ci,show((i:Nat):Int)+1=((i+1:Nat):Int) from a_];exact J _ (Af _ _ _) (p.Ao (.inr (aD _)) a _) a
 refine st 0 h1 _ _ _ a_ y u l1 fun h2 f p a=>st 1 h2 _ _ _ a_ f p a fun h3 M O U=>st 2 h3 _ _ _ a_ M O U fun h4 g4 G V=>?_
 rw[Tt];simp only[I,Ac];simp only[show decide (((2+1:Nat):Int)<3)=false from rfl,Aa,G'];exact .ret ⟨rfl,g4,G,G.hb hb⟩
theorem G_(z:List EV):∀n,rep z n=(List.replicate n z).flatten
 | 0=>rfl
 | n+1=>by rw[dW,cJ,<-G_ z n];rfl
theorem Τ(n:Nat):((List.replicate n (Me.nil 0)).map Me.cells).flatten=rep (List.replicate 6 (.int .i64 0)) n:=by
 rw[G_,gE];rfl
theorem HA(z:Int):∀n,W7 (List.replicate n (Me.nil 0)) z=0
 | 0=>rfl
 | n+1=>by
  rw[dW,o_,HA z n];unfold iC;rw[aK (fun y=>by cases y.1)];rfl
theorem Υ(n m:Nat):((List.range n).map fun(z:Nat)=>I (W7 (List.replicate m (Me.nil 0)) z))=rep [.int .i64 0] n:=by
 rw[wV];have:(fun(z:Nat)=>I (W7 (List.replicate m (Me.nil 0)) z))=fun _=>EV.int .i64 0:=by funext z;rw[HA]
 rw[this,HC]
theorem HD(hr:rtB g=true)(hb:HB h):Ok (mM K (gV g) h) fun v h'=>∃b ml ll,v=.tuple [.ptr b 0,I 0]/\K7 h' b ml ll g (List.replicate g.B.toNat (Me.nil 0))/\Ext h h'/\HB h'/\h.next<=b/\h.next<=ml/\h.next<=ll:=by
 have s:=No hr;have:=s.b0;have:=s.b1;have:=s.d0;have:=s.d1;have:=s.z0;have:=s.z1;obtain⟨m0,m1⟩:=Rp (a:=g.D) (b:=g.Z) (A:=8) (B:=64);simp only[mM,gV,Aa];obtain⟨h1,e_,G,g1,n1⟩:=nW h (.cells (gL g) 23);rw[e_];have J:=G.hb hb;rw[Cv g1 rfl,Ai (n:=6) rfl]
 try simp only[Aa]
 rw[show EV.agg (gL g)=gV g from rfl];refine(Vf (K:=K) g h1).Al ?_;rintro _ h2 ⟨rfl,y⟩;have f:=y.hb J;have V:=y.at J g1;have l2:=f _ _ V;simp only[hr,Aa,HE];rw[I6 l2,Cv V rfl,Ai (n:=6) rfl];simp only[Aa,Ar];rw[I6 l2,Ak V rfl (v:=I g.B) rfl];simp only[Aa,Ar];have hB:I g.B=I (g.B.toNat:Int):=by rw[dV a_]
 rw[hB,zS a_,Aq];have E:Ext h2 (h2.new (.cells (rep (List.replicate 6 (.int .i64 0)) g.B.toNat) 87)):=Aw.new _ _;have g3:(h2.new (.cells (rep (List.replicate 6 (.int .i64 0)) g.B.toNat) 87)).get h2.next=some (.cells (rep (List.replicate 6 (.int .i64 0)) g.B.toNat) 87):=Ad _ _
 have n3:(h2.new (.cells (rep (List.replicate 6 (.int .i64 0)) g.B.toNat) 87)).next=h2.next+1:=rfl
 have e3:([EV.int .i64 0,.int .i64 0,.int .i64 0,.int .i64 0,.int .i64 0,.int .i64 0]:List EV)=List.replicate 6 (.int .i64 0):=rfl;rw[e3];generalize h2.new (.cells (rep (List.replicate 6 (.int .i64 0)) g.B.toNat) 87)=h3 at E g3 n3⊢;have t:=E.hb f;have M:=E.at f V;have l3:=t _ _ M;rw[I6 (show h.next<h2.next from l2),Cv M rfl,Ai (n:=6) rfl];simp only[Aa,Ar];rw[show EV.agg (gL g)=gV g from rfl];refine Ok.VQ (P:=fun v h'=>v=I (g.D*g.Z)/\Ext (Ic 16 ⟨0,[(Nat.shiftLeft 1 3,h2.next)],[(Nat.shiftLeft 1 4,h.next),(Nat.shiftLeft 1 2,h.next),(Nat.shiftLeft 1 0,h.next)],[],[]⟩ h3) h') (by kernel_rfl) ?_ (fun _ _ p=>p.2) ?_
 ·rw[Ot s]
  exact .ret ⟨rfl,Aw.new _ _⟩
 ·rintro _ al h4 ⟨rfl,ao⟩ eg en O
  have U:=O.hb t;have ae:=O.at t g3;have hN:I (g.D*g.Z)=I ((g.D*g.Z).toNat:Int):=by rw[dV a_]
  try simp only[Aa,Ar]
  rw[hN,zS a_,Aq];obtain⟨h5,e_,W,g5,n5⟩:=nW h4 (.cells (rep [.int .i64 0] (g.D*g.Z).toNat) 3);rw[e_];have u:=W.hb U;rw[Ax (l:=gL g++[.slice h2.next 0 g.B.toNat g.B.toNat false,.slice h4.next 0 (g.D*g.Z).toNat (g.D*g.Z).toNat false]) rfl];simp only[Aa,Ar];have x6:Ext h5 (h5.new (.cells (gL g++[.slice h2.next 0 g.B.toNat g.B.toNat false,.slice h4.next 0 (g.D*g.Z).toNat (g.D*g.Z).toNat false]) 147)):=Aw.new _ _;refine .ret ⟨h5.next,h2.next,h4.next,rfl,⟨Ad _ _,by rw[Τ];exact x6.at u (W.at U ae),by rw[Υ];exact x6.at u g5,by rw[bW],fun x hx=>by rw[cC hx];unfold meR;rw[aN (.inl rfl)];exact aQ rfl⟩,((((G.trans y).trans E).trans O).trans W).trans x6,x6.hb u,?_,?_,?_⟩
  ·have:=G.next;have:=y.next;have:=E.next;have:=O.next;have:=W.next;omega
  ·have:=G.next;have:=y.next;omega
  ·have:=G.next;have:=y.next;have:=E.next;have:=O.next;omega
noncomputable def Mi.qU(cur Cn:Nat->Int)(S:Mi)(z:Int):Mi:=if js cur Cn z=true then S else S.l_ z
noncomputable def Mi.jQ(cur Cn:Nat->Int)(S:Mi):Nat->Mi
 | 0=>S
 | n+1=>(Mi.jQ cur Cn S n).qU cur Cn n
theorem Φ(cur Cn:Nat->Int)(S:Mi)(z:Int):(S.qU cur Cn z).bad=S.bad/\(S.qU cur Cn z).g=S.g/\(S.qU cur Cn z).dr=S.dr:=by
 unfold Mi.qU;split<;>exact⟨rfl,rfl,rfl⟩
theorem py(cur Cn:Nat->Int)(S:Mi):∀n,(S.jQ cur Cn n).bad=S.bad/\(S.jQ cur Cn n).g=S.g/\(S.jQ cur Cn n).dr=S.dr
 | 0=>⟨rfl,rfl,rfl⟩
 | n+1=>by
  obtain⟨a,b,c⟩:=Φ cur Cn (S.jQ cur Cn n) n;obtain⟨d,e,f⟩:=py cur Cn S n;exact⟨a.trans d,b.trans e,c.trans f⟩
def Tj(g:Gm):Nat->Int:=Nd (Nd (Nd (fun _=>-1) 0 0) 1 g.Z) 2 (2*g.Z)
def Sx(g:Gm):Nat->Int:=Nd (Nd (Nd (fun _=>-1) 0 1) 1 (g.Z+1)) 2 (2*g.Z+1)
noncomputable def Co.start(g:Gm):Co:=⟨(Mi.new g).jQ (Tj g) (Sx g) (g.D*g.Z).toNat,Tj g,Sx g,List.replicate g.B.toNat (Me.nil 0),0,1,1,false⟩
theorem HF(a:rtB g=true):g.P+3<=g.Z:=by
 have s:=No a;have h:2*g.B<=g.S*g.segments:=by
  unfold rtB at a;simp only[bD,av]at a;exact a.2.2
 have:=s.b0;have:=s.s0;have:=s.d0;have:=s.p0;have h1:1<=g.segments:=by
  rcases Int.lt_or_le 0 g.segments with y|y
  ·omega
  ·have:g.S*g.segments<=g.S*0:=eI y a_
   omega
 by_cases f:g.P+3<=g.Z
 ·exact f
 ·exfalso
  unfold Gm.segments at h1;have u0:(g.D-1)*(g.Z-g.P-2)<=0:=Int.mul_nonpos_of_nonneg_of_nonpos a_ a_;have p:0<=g.D*g.P:=Int.mul_nonneg a_ a_;have h2:g.least<=(g.D-1)*(g.Z-g.P-2)-g.nU+1:=Int.min_le_left _ _;unfold Gm.nU at h2;omega
theorem mN(s:Sm g){k:Int}(p:(i:Int)<g.D:=by omega)(a:0<=k:=by omega)(f:k<g.Z:=by omega):D4 g (i*g.Z+k)=i:=by
 have:=s.z0;have h1:(0:Int)<=i*g.Z:=Int.mul_nonneg a_ a_;have h2:(i:Int)*g.Z+g.Z<=g.D*g.Z:=by
  have:((i:Int)+1)*g.Z<=g.D*g.Z:=Int.mul_le_mul_of_nonneg_right a_ a_;rw[Int.add_mul,Int.one_mul]at this;exact this
 unfold D4;rw[aK a_,Int.add_comm,Int.add_mul_ediv_right _ _ a_,Int.ediv_eq_zero_of_lt a f,Int.zero_add]
theorem Χ(A:Ca disp)(hK:10000<K)(hd:8<=d)(hn:n<=600){ar:Nat}(fa:F ar){S0:Mi}(b0:∀z,S0.bad z=0):∀(f i:Nat) (h:Ab),n-i<f->i<=n->C8 h m (S0.jQ cur Cn i) F->HB h->h.get ar=some (.cells (arC m cur Cn) 126)->Kf F h0 h ->
 (∀h',C8 h' m (S0.jQ cur Cn n) F->Kf F h0 h'->HB h'->Ok (Gg (Ag TT disp K d false) (Ag TT disp K d true) K (.ptr m 0) (.ptr b 0) (.ptr ar 0) h') Q) ->
 Ok (Ec (Ag TT disp K d false) (Ag TT disp K d true) K f (.ptr m 0) (.ptr b 0) (.ptr ar 0) (I n) (I i) h) Q:=by
 intro f;induction f with
 | zero=>intro i h hf;omega
 | succ f ih=>
  intro i h hf hi M hb O k U;rw[Ec];simp only[I,Ac];by_cases ae:i<n
  ·have:decide ((i:Int)<(n:Int))=true:=by simp;omega
   simp only[this,Aa,Uk];have V:=DG (K:=K) A (d:=d) a_ a_ O hb (i:Int);simp only[I]at V;refine V.Al ?_;rintro _ h2 ⟨rfl,E,a⟩;have M2:=(M.ext hb E).less fun j (hj:F j)=>Or.inl hj
   have u:=E.at hb O;have W:=k.trans (Ext.kf E);have nx:∀h3,C8 h3 m (S0.jQ cur Cn (i+1)) F->HB h3->h3.get ar=some (.cells (arC m cur Cn) 126)->Kf F h0 h3->Ok (Nn (Ag TT disp K d false) (Ag TT disp K d true) K (Ec (Ag TT disp K d false) (Ag TT disp K d true) K f) (.ptr m 0) (.ptr b 0) (.ptr ar 0) (.int .i64 (n:Int)) (.int .i64 (i:Int)) h3) Q:=fun h3 G t J y=>by
    simp only[Nn,Ac];rw[Ci,show((i:Nat):Int)+1=((i+1:Nat):Int) from a_];exact ih (i+1) h3 a_ a_ G t J y U
   have e1:S0.jQ cur Cn (i+1)=if js cur Cn i=true then S0.jQ cur Cn i else(S0.jQ cur Cn i).l_ i:=rfl
   cases Z:js cur Cn i with
   | true=>
    simp only[Aa];exact nx h2 (by rw[e1,aN Z];exact M2) a u W
   | false=>
    simp only[Aa];obtain⟨p,e2,e3⟩:=EJ M2 a A hK;rw[e2,Aq];refine Ok.Al (e3 hd (z:=(i:Int)) ⟨a_,a_⟩ fun _=>by rw[(py cur Cn S0 i).1,b0];decide) ?_;rintro _ h3 ⟨rfl,G,y,t⟩;exact nx h3 (by rw[e1,aK (by rw[Z];decide)];exact G) t (y.at a u fa) (W.trans y)
  ·have:decide ((i:Int)<(n:Int))=false:=by simp;omega
   simp only[this,Aa];have:i=n:=a_
   subst this;exact U h M k hb
theorem Ψ {a:Nat}{y z:Int}(h:Ab):qV K (.ptr m 0) (.ptr a 0) (.ptr b 0) (.agg [I x,I y,I z]) h=some (.ptr (h.next+1) 0,(h.new (.cells [I x,I y,I z] 45)).new (.cells [.ptr m 0,.ptr a 0,.ptr b 0,I x,I y,I z,.bool false] 111)):=by
 simp only[qV,Aa];rw[Cv (Ad _ _) rfl,Ai (n:=3) rfl]
 try simp only[Aa]
 rw[Ax (l:=[.ptr m 0,.ptr a 0,.ptr b 0,I x,I y,I z,.bool false]) rfl]
 try simp only[Aa]
 rfl
theorem Ω(A:Ca disp)(hK:10000<K)(hd:8<=d)(hr:rtB g=true)(hb:HB h){v1 ll L:Nat}(g1:h.get v1=some (.cells (gL g) 23))(mp:K7 h b ml ll g (List.replicate g.B.toNat (Me.nil 0)))(lb:L<=b/\L<=ml/\L<=ll)(M:C8 h m (Mi.new g) (fun i=>i<L\/i=b\/i=ml\/i=ll))(lv:v1<L)
 (hk:∀h' ar,L<=ar->C8 h' m (Co.start g).S (fun i=>i<L\/i=b\/i=ml\/i=ll\/i=ar)->h'.get ar=some (.cells (arC m (Tj g) (Sx g)) 126)->K7 h' b ml ll g (List.replicate g.B.toNat (Me.nil 0))->Kf (fun i=>i<L) h h'->HB h'->Ok (Gg (Ag TT disp K d false) (Ag TT disp K d true) K (.ptr m 0) (.ptr b 0) (.ptr ar 0) h') Q) :
 Ok (Mj (Ag TT disp K d false) (Ag TT disp K d true) K (.ptr v1 0) (.ptr m 0) (.ptr b 0) h) Q:=by
 have s:=No hr;have zz:=HF hr;have:=s.d0;have:=s.d1;have:=s.z0;have:=s.z1;have:=s.p0;obtain⟨m0,m1⟩:=Rp (a:=g.D) (b:=g.Z) (A:=8) (B:=64);simp only[Mj,dr];refine(Ρ (K:=K) a_ hb m).Al ?_;rintro _ h2 ⟨rfl,ga,x2,p⟩;have la:=p _ _ ga;have lm:h.next<=h.next:=aD _
 have l1:=hb _ _ g1;have l3:=hb _ _ mp.map;have l4:=hb _ _ mp.row;have l5:=hb _ _ mp.live;have M2:C8 h2 m (Mi.new g) (fun i=>i<L\/i=b\/i=ml\/i=ll\/i=h.next):=(M.ext hb x2).less fun i f=>by
  rcases f with f|f|f|f|f
  ·exact .inl (.inl f)
  ·exact .inl (.inr (.inl f))
  ·exact .inl (.inr (.inr (.inl f)))
  ·exact .inl (.inr (.inr (.inr f)))
  ·exact .inr ⟨a_,a_⟩
 have hL:L<=h.next:=a_
 have V:=x2.at hb g1;generalize h.next=ar at *
 have fa:(fun i=>i<L\/i=b\/i=ml\/i=ll\/i=ar) ar:=.inr (.inr (.inr (.inr rfl)));have st:∀(i:Nat) (h3:Ab) (c o:Nat->Int) (n:Nat),i<3->C8 h3 m (Mi.new g) (fun i=>i<L\/i=b\/i=ml\/i=ll\/i=ar)->HB h3->h3.get ar=some (.cells (arC m c o) 126)->Aw (fun j=>j=ar) h2 h3 ->
  (∀h4,C8 h4 m (Mi.new g) (fun i=>i<L\/i=b\/i=ml\/i=ll\/i=ar)->HB h4->h4.get ar=some (.cells (arC m (Nd c i (i*g.Z)) (Nd o i (i*g.Z+1))) 126)->Aw (fun j=>j=ar) h2 h4->Ok (Dp (Ag TT disp K d false) (Ag TT disp K d true) K n (.ptr v1 0) (.ptr m 0) (.ptr b 0) (.ptr ar 0) (I (i+1:Nat)) h4) Q) ->
  Ok (Dp (Ag TT disp K d false) (Ag TT disp K d true) K (n+1) (.ptr v1 0) (.ptr m 0) (.ptr b 0) (.ptr ar 0) (I i) h3) Q:=by
  intro i h3 c o n f M3 u E c3 hk;rw[Dp];simp only[I,Ac];have:decide ((i:Int)<3)=true:=by simp;omega
  simp only[this,Aa,Ue];have af:=c3.at p V (by show ¬v1=ar;omega);have ld:∀k:EV->R,Et (.ptr v1 1) h3 k=k (I g.Z):=fun k=>Ak af rfl rfl
  obtain⟨a0,a1⟩:=Rp (a:=(i:Int)) (b:=g.Z) (A:=3) (B:=64);simp only[ld,I,Ac];rw[Ci,Ci];have d1:=mN s (i:=i) (k:=0);have d2:=mN s (i:=i) (k:=1);rw[Int.add_zero]at d1;have so:=YC (K:=K) M3 u E fa f (v:=i*g.Z) (w:=i*g.Z+1) (.inr d1) (.inr d2) a_;simp only[I]at so;refine so.Al ?_;rintro _ h4 ⟨rfl,M4,G,c4,J⟩;simp only[Uh,Ac];rw[Ci,show((i:Nat):Int)+1=((i+1:Nat):Int) from a_];exact hk h4 M4 J G (c3.trans c4)
 obtain⟨K',rfl⟩:∃k,K=k+4:=⟨K-4,a_⟩;refine st 0 h2 _ _ _ a_ M2 p ga (Aw.refl _) fun h3 M3 u E c3=>st 1 h3 _ _ _ a_ M3 u E c3 fun h4 M4 J G c4=>st 2 h4 _ _ _ a_ M4 J G c4 fun h5 M5 t O c5=>?_
 rw[Dp];simp only[I,Ac];simp only[show decide (((2+1:Nat):Int)<3)=false from rfl,Aa,Nm];have ah:=c5.at p V (by show ¬v1=ar;omega);rw[Cv ah rfl,Ai (n:=6) rfl]
 try simp only[Aa]
 rw[show EV.agg (gL g)=gV g from rfl,Ot s,Aq];obtain⟨n,hn⟩:=bL (show 0<=g.D*g.Z from a_);rw[hn];obtain⟨h6,e_,W,_,_⟩:=nW h5 (.cells (gL g) 23);rw[e_];have U:=W.hb t;have cc:Nd (Nd (Nd (fun _=>-1) 0 ((0:Nat)*g.Z)) 1 ((1:Nat)*g.Z)) 2 ((2:Nat)*g.Z)=Tj g:=by
  unfold Tj;rw[show(((0:Nat):Int))*g.Z=0 from Int.zero_mul _,show(((1:Nat):Int))*g.Z=g.Z from Int.one_mul _];rfl
 have co:Nd (Nd (Nd (fun _=>-1) 0 ((0:Nat)*g.Z+1)) 1 ((1:Nat)*g.Z+1)) 2 ((2:Nat)*g.Z+1)=Sx g:=by
  unfold Sx;rw[show(((0:Nat):Int))*g.Z=0 from Int.zero_mul _,show(((1:Nat):Int))*g.Z=g.Z from Int.one_mul _];rfl
 rw[cc,co]at O;have M6:=(M5.ext t W).less (F':=fun i=>i<L\/i=b\/i=ml\/i=ll\/i=ar) fun j hj=>Or.inl hj
 refine Χ (S0:=Mi.new g) (cur:=Tj g) (Cn:=Sx g) (h0:=h6) A hK hd (n:=n) a_ fa (fun _=>rfl) (K'+4) 0 h6 a_ a_ M6 U (W.at t O) (Aw.refl _) fun h7 M7 k7 ao=>?_
 have ca:Aw (fun j=>j=ar) h2 h6:=c5.trans (Ext.to W);have kp:∀i o,i<ar->(i<L\/i=b\/i=ml\/i=ll)->h.get i=some o->h7.get i=some o:=fun i o f hf e=>k7.at U (ca.at p (x2.at hb e) (by show ¬i=ar;omega)) (by
  rcases hf with y|y|y|y
  ·exact .inl y
  ·exact .inr (.inl y)
  ·exact .inr (.inr (.inl y))
  ·exact .inr (.inr (.inr (.inl y))))
 refine hk h7 ar hL ?_ (k7.at U (W.at t O) fa) ⟨kp _ _ l3 (.inr (.inl rfl)) mp.map,kp _ _ l4 (.inr (.inr (.inl rfl))) mp.row,kp _ _ l5 (.inr (.inr (.inr rfl))) mp.live,mp.len,mp.ok⟩ ?_ ao
 ·show C8 h7 m ((Mi.new g).jQ (Tj g) (Sx g) (g.D*g.Z).toNat) _
  rw[hn];exact M7
 ·refine(Ext.kf x2).trans ((ca.mono fun i f y=>?_).trans (k7.less fun i f=>.inl f))
  have y:i<L:=y;have f:i=ar:=f;omega
theorem Co.Bl6(a:rtB g=true):(Co.start g).Wf:=by
 have s:=No a;have u:=HF a;have:=s.d0;have:=s.p0;have:=s.z0;have:=s.s0;obtain⟨_,e2,e3⟩:=py (Tj g) (Sx g) (Mi.new g) (g.D*g.Z).toNat;have f:(Co.start g).S.g=g:=e2;have d0:=mN s (i:=0) (k:=0);have d1:=mN s (i:=1) (k:=0);have d2:=mN s (i:=2) (k:=0);have o0:=mN s (i:=0) (k:=1);have o1:=mN s (i:=1) (k:=1);have p:=mN s (i:=2) (k:=1);refine⟨by rw[f];exact a,⟨fun i t=>.inr ?_,fun i t=>.inr ?_⟩,?_⟩
 ·rw[f]
  rcases(show i=0\/i=1\/i=2 from a_)with rfl|rfl|rfl
  ·rw[<-d0];congr 1;show(0:Int)=_;omega
  ·rw[<-d1];congr 1;show g.Z=_;omega
  ·rw[<-d2];congr 1;show 2*g.Z=_;omega
 ·rw[f]
  rcases(show i=0\/i=1\/i=2 from a_)with rfl|rfl|rfl
  ·rw[<-o0];congr 1;show(1:Int)=_;omega
  ·rw[<-o1];congr 1;show g.Z+1=_;omega
  ·rw[<-p];congr 1
 ·show 0<(Co.start g).S.dr.dv.size
  rw[show(Co.start g).S.dr=(Mi.new g).dr from e3];show 0<g.S.toNat;omega
theorem A47(A:Ca disp)(hK:10000<K)(hd:9<=d)(g:Gm)(hb:HB h):Ok (Ag TT disp K d false 6 [gV g] h) fun v h'=>Kf (fun i=>i<h.next) h h'/\HB h' /\
 if rtB g=true/\g.D*g.Z<=64 then ∃B,v=.ptr B.c 0/\Ex h' B (Co.start g) (fun i=>i<h.next)/\h.next<=B.c else v=.Bz:=by
 obtain⟨e,rfl⟩:=d_ d;rw[Afa A a_];simp only[X2,gV,Aa];obtain⟨h1,e_,x1,g1,n1⟩:=nW h (.cells (gL g) 23);rw[e_];have ai:=x1.hb hb;rw[Cv g1 rfl,Ai (n:=6) rfl]
 try simp only[Aa]
 rw[show EV.agg (gL g)=gV g from rfl];refine(Bg1 g a_ h1).Al ?_;rintro _ h3 ⟨rfl,x3⟩;have u:=x3.hb ai;have ab:Ext h h3:=x1.trans x3;have bw:Fa (.tuple []) false=false/\Fa (.tuple []) true=false:=⟨rfl,rfl⟩;cases hr:rtB g with
 | false=>
  simp only[Aa,Ac,H8];exact .ret ⟨Ext.kf ab,u,by rw[aK (fun y=>by cases y.1)]⟩
 | true=>
 have s:=No hr;have:=s.d0;have:=s.d1;have:=s.z0;have:=s.z1;have:=s.s0;have:=s.s1;have:=s.o0;have:=s.o1;obtain⟨m0,m1⟩:=Rp (a:=g.D) (b:=g.Z) (A:=8) (B:=64);have m2:3<=g.D*g.Z:=by
  have:3*1<=g.D*g.Z:=Int.mul_le_mul a_ a_ a_ a_;omega
 have J:=x3.at ai g1;simp only[Aa,Ac,Cy J rfl,gL,I];rw[Ci];by_cases al:64<g.D*g.Z
 ·simp only[al,aB,Aa,Ac,H8]
  exact .ret ⟨Ext.kf ab,u,by rw[aK (fun y=>by omega)]⟩
 simp only[al,aA,Aa,Ac,H8,Tp,Ar];have l3:=u _ _ J;rw[I6 l3,Cv J rfl,Ai (n:=6) rfl]
 try simp only[Aa,Ar]
 rw[show EV.agg (gL g)=gV g from rfl];refine Ok.bE (P:=fun v h'=>v=I (g.D*g.Z)/\Ext h3.lift h') ⟨_,_,Ot s _,rfl,Aw.new _ _⟩ (fun _ _ p=>p.2) ?_;rintro _ _ h4 ⟨rfl,_⟩ _ x4;have ad:=x4.hb u;have ae:=x4.at u J;rw[I6 l3,Ak ae rfl (v:=I g.S) rfl]
 try simp only[Aa,Ar]
 rw[I6 l3,Ak ae rfl (v:=I g.O) rfl]
 try simp only[Aa,Ar]
 have a5:qW (g.D*g.Z) g.S g.O=true:=by
  unfold qW;rw[J8.2 ⟨a_,a_⟩,J8.2 ⟨a_,a_⟩,J8.2 ⟨a_,a_⟩];rfl
 refine Ok.bE (A5w (K:=K) a5 a_ (Cz ad)) (fun _ _ p=>by obtain⟨_,_,_,_,_,_,x,_⟩:=p;exact x) ?_;rintro _ bx h5 ⟨D,V,M,a6,z,rfl,_,_,dr,nd⟩ sm x5;have E:=x5.hb ad;have dr:=dr.ext (h':=h5) fun i o g=>by rw[sm.get];exact g
 have af:=x5.at ad ae;have bz:h4.lift.next=h4.next:=rfl
 simp only[Aa,I,Ac,aC,aA,Su,Ar];have l5:=E _ _ af;rw[I6 l5,Cv af rfl,Ai (n:=6) rfl]
 try simp only[Aa,Ar]
 rw[wW (v:=U1) (by kernel_rfl) (by kernel_rfl) rfl];have a7:mO h5.lift D V M a6 (g.D*g.Z).toNat z (fun _=>0) g.S g.O 0 false .An .An [] (fun _=>Zn.empty):=dr.ext fun i o g=>by rw[Bv];exact g
 rw[show EV.agg (gL g)=gV g from rfl];refine Ok.bE (A2n (K:=K) (g:=g) a_ (Cz E) a7) (fun _ _ p=>p.1) ?_;rintro v a8 h6 ⟨_,_,hv⟩ ba x6;have U:=x6.hb E;rw[aN ⟨hr,a_,rfl⟩]at hv;obtain⟨m,p,bl,ql,q,c,rfl,MA,PA,nm⟩:=hv;have k6:∀i o,a8.get i=some o->h6.get i=some o:=fun i o g=>by rw[ba.get];exact g
 have t1:=x1.next;have t3:=x3.next;have t4:=x4.next;have t5:=x5.next;have t6:=x6.next
 have cb:h5.lift.next=h5.next:=rfl
 have M6:=Bp2 s (h0:=h4) U (dr.ext fun i o g=>x6.at E g) ⟨⟨a_,a_⟩,a_,a_,nd.2.2.2⟩ (MA.ext k6) (PA.ext k6) ⟨⟨a_,a_⟩,a_,a_,fun d hd=>by have:=nm.2.2.2 d hd;omega⟩ a_;have aq:=x6.at E af;simp only[Aa,I,Ac];rw[Cv aq rfl,Ai (n:=6) rfl]
 try simp only[Aa]
 rw[show EV.agg (gL g)=gV g from rfl];refine(HD (K:=K) hr U).Al ?_;rintro _ h7 ⟨b,ml,ll,rfl,mp,x7,W,lb,cf,ch⟩;simp only[Aa,I,Ac,aC,aA,Sy];have ct:=W _ _ mp.map;have cw:=W _ _ mp.row;have cx:=W _ _ mp.live;have M7:C8 h7 m (Mi.new g) (fun i=>i<h4.next\/i=b\/i=ml\/i=ll):=(M6.ext U x7).less fun i f=>by
  rcases f with f|f|f|f
  ·exact .inl f
  ·exact .inr ⟨a_,a_⟩
  ·exact .inr ⟨a_,a_⟩
  ·exact .inr ⟨a_,a_⟩
 have bf:Ext h h7:=(((ab.trans x4).trans x5).trans x6).trans x7;refine Ω (K:=K) A hK (d:=e) a_ hr W (v1:=h.next) (L:=h4.next) (x7.at U aq) mp ⟨a_,a_,a_⟩ M7 a_ fun G ar cB M8 au aa k8 t=>?_
 simp only[Gg,dr];rw[Ax (l:=[I 0,I 1,I 1]) rfl]
 try simp only[Aa]
 rw[Ψ,Aq];have x9:Ext G ((G.new (.cells [I 0,I 1,I 1] 45)).new (.cells [.ptr m 0,.ptr ar 0,.ptr b 0,I 0,I 1,I 1,.bool false] 111)):=(Aw.new _ _).Da _;have g9:((G.new (.cells [I 0,I 1,I 1] 45)).new (.cells [.ptr m 0,.ptr ar 0,.ptr b 0,I 0,I 1,I 1,.bool false] 111)).get (G.next+1)=some (.cells [.ptr m 0,.ptr ar 0,.ptr b 0,I 0,I 1,I 1,.bool false] 111):=Ad _ _;generalize (G.new (.cells [I 0,I 1,I 1] 45)).new (.cells [.ptr m 0,.ptr ar 0,.ptr b 0,I 0,I 1,I 1,.bool false] 111)=h9 at x9 g9⊢;have ag:=x9.hb t;have l9:=ag _ _ g9;have e2:(Co.start g).S.g=g:=(py (Tj g) (Sx g) (Mi.new g) (g.D*g.Z).toNat).2.1;have c5:=t _ _ au;have c6:=t _ _ aa.map;have c7:=t _ _ aa.row;have c8:=t _ _ aa.live;have t8:=k8.next
 have M9:=M8.ext t x9;refine .ret ⟨?_,ag,?_⟩
 ·exact(Ext.kf bf).trans ((k8.trans (Ext.kf x9)).mono fun i f y=>f (by have y:i<h.next:=y;show i<h4.next;omega))
 ·rw[aN ⟨trivial,a_⟩]
  refine⟨⟨G.next+1,ar,m,b,ml,ll⟩,rfl,⟨M9.less fun i f=>?_,g9,x9.at t au,?_,Co.Bl6 hr,fun i f y=>?_,ag⟩,?_⟩
  ·rcases f with f|f|f|f|f|f
   ·exact .inl (.inl (show i<h4.next by have f:i<h.next:=f;omega))
   ·exact .inr ⟨by have f:i=G.next+1:=f;omega,by have f:i=G.next+1:=f;omega⟩
   ·exact .inl (.inr (.inr (.inr (.inr f))))
   ·exact .inl (.inr (.inl f))
   ·exact .inl (.inr (.inr (.inl f)))
   ·exact .inl (.inr (.inr (.inr (.inl f))))
  ·show K7 h9 b ml ll (Co.start g).S.g _
   rw[e2];exact aa.ext fun i o g=>x9.at t g
  ·have f:i<h.next:=f
   rcases y with y|y|y|y|y
   ·have y:i=G.next+1:=y;omega
   ·have y:i=ar:=y;omega
   ·have y:i=b:=y;omega
   ·have y:i=ml:=y;omega
   ·have y:i=ll:=y;omega
  ·show h.next<=G.next+1
   omega
def z8(b:Nat):EV:=.int .u8 (Int.ofNat b)
theorem Bbj{v2 v3:Nat}(n23:v2≠v3):∀(m i:Nat) (h:Ab),32-i<m->i<=32->HB h->h.get v2=some (.cells (List.replicate 32 (z8 0)) 81)->h.get v3=some (.cells (List.replicate i (z8 b)++List.replicate (32-i) (z8 0)) 81) ->
 Ok (U7 K m (z8 b) (.ptr v2 0) (.ptr v3 0) (I i) h) fun v h'=>v=.agg (List.replicate 32 (z8 b))/\Aw (fun j=>j=v2\/j=v3) h h'/\HB h':=by
 intro m;induction m with
 | zero=>intro i h hm;omega
 | succ m G=>
  intro i h hm M hb a f;rw[U7];simp only[I,Ac,Aa];by_cases p:i<32
  ·have:decide ((i:Int)<32)=true:=by simp;omega
   simp only[this,Aa,HG];rw[Vo p];simp only[Aa,cD];have y:=hb _ _ f;refine Ok.Z7 f rfl rfl (by simp;omega) ?_;simp only[HH,Ac];rw[Ci,show((i:Nat):Int)+1=((i+1:Nat):Int) from a_];have J:((List.replicate i (z8 b)++List.replicate (32-i) (z8 0)).set i (z8 b))=List.replicate (i+1) (z8 b)++List.replicate (32-(i+1)) (z8 0):=by
    rw[dh _ _ (by simp),bW,fM,show 32-i=(32-(i+1))+1 from a_,dW,List.set_cons_zero,List.replicate_succ',bQ];rfl
   rw[J];refine(G (i+1) _ a_ a_ (hb.put y _) (by rw[Ae _ (cn n23)];exact a) (Af _ _ _)).mono ?_;rintro v h' ⟨rfl,c,t⟩;exact⟨rfl,((Aw.refl (S:=fun j=>j=v2\/j=v3) h).Ao (.inl (.inr rfl)) y _).trans c,t⟩
  ·have:decide ((i:Int)<32)=false:=by simp;omega
   have u:i=32:=a_
   subst u;simp only[this,Aa,HI];rw[Cv f rfl,Ai (n:=32) (by simp)];simp only[Aa];have E:=hb _ _ a;refine Ok.st (List.replicate 32 (z8 b)) a rfl rfl (Bl rfl) ?_;rw[Rb (Af _ _ _) ji.1 ji.2 rfl];exact .ret ⟨rfl,(Aw.refl (S:=fun j=>j=v2\/j=v3) h).Ao (.inl (.inl rfl)) E _,hb.put E _⟩
theorem Bno(hK:100<K)(b:Nat)(hb:HB h):Ok (tz K (z8 b) h) fun v h'=>v=.agg (Bh (List.replicate 32 b))/\Ext h h'/\HB h':=by
 simp only[tz,Aa];rw[show(h.new (.cells (List.replicate 32 (EV.int .u8 0)) 81)).next=h.next+1 from rfl];have p:Ext h ((h.new (.cells (List.replicate 32 (EV.int .u8 0)) 81)).new (.cells (List.replicate 32 (EV.int .u8 0)) 81)):=(Aw.new _ _).Da _;have t:((h.new (.cells (List.replicate 32 (EV.int .u8 0)) 81)).new (.cells (List.replicate 32 (EV.int .u8 0)) 81)).get h.next=some (.cells (List.replicate 32 (z8 0)) 81):=by
  rw[Az _ (aO _)];exact Ad _ _
 have u:((h.new (.cells (List.replicate 32 (EV.int .u8 0)) 81)).new (.cells (List.replicate 32 (EV.int .u8 0)) 81)).get (h.next+1)=some (.cells (List.replicate 0 (z8 b)++List.replicate (32-0) (z8 0)) 81):=Ad _ _;refine(Bbj (K:=K) (b:=b) (v2:=h.next) (v3:=h.next+1) a_ K 0 _ a_ a_ (p.hb hb) t u).mono ?_;rintro v h' ⟨rfl,c,a⟩;refine⟨?_,p.then c fun i f y=>?_,a⟩
 ·unfold Bh;rw[gE];rfl
 ·rcases f with f|f<;>omega
theorem Le.Ay {e:Le}(w:e.Wf):e.cells.length=68:=by
 unfold Le.cells;rw[aE,w.len];rfl
structure A2h(h:Ab)(v:EV)(b:Nat)(L:List Int):Prop where
 row:(L = []/\lenOf v=some 0)\/∃off r op,v=.slice b off L.length r op/\∀j (hj:j<L.length) (k:EV->R),Et (.ptr b (off+j)) h k=k (I L[j])
theorem A2h.frame{L:List Int}(r:A2h h v b L)(e:0<L.length->h'.get b=h.get b):A2h h' v b L:=by
 refine⟨?_⟩;rcases r.row with y|⟨off,a,op,rfl,y⟩
 ·exact .inl y
 ·refine .inr ⟨off,a,op,rfl,fun j hj k=>?_⟩
  have:=y j hj k;show oB _ (kx (h'.get b) _ 1)=_;rw[e a_];exact this
theorem A2h.Fz{L:List Int}(r:A2h h v b L)(k:EV->R):Ev.Fz v k=k (I L.length):=by
 rcases r.row with⟨rfl,y⟩|⟨off,a,op,rfl,_⟩
 ·unfold Ev.Fz;rw[y];rfl
 ·rfl
theorem A2h.at{L:List Int}(r:A2h h v b L)(hj:j<L.length)(k:EV->R):Ve 1 v (.int .i64 (j:Int)) (fun p=>Et p h k)=k (I L[j]):=by
 rcases r.row with⟨rfl,_⟩|⟨off,a,op,rfl,y⟩
 ·exact absurd hj (cT _)
 ·rw[Md hj,cD];exact y j hj k
structure Zf where
 kind:Int
 x:Int
 y:Int
 bl:EV
 bq:Nat
 bs:List Int
 ev:Le
variable {o:Zf}
def Zf.cells(o:Zf):List EV:=[I o.kind,I o.x,I o.y,o.bl]++o.ev.cells
structure Zf.At(h:Ab)(o:Zf):Prop where
 row:A2h h o.bl o.bq o.bs
 ev:o.ev.Wf
 pl:o.bl.plain=true/\o.bl.cells = [o.bl]
theorem Zf.len(w:o.ev.Wf):o.cells.length=72:=by
 unfold Zf.cells;rw[aE,Le.Ay w];rfl
def wb(n:Int):Nat:=(n%256).toNat
theorem Bso(n:Int):wb n<256:=by unfold wb;omega
theorem Bo3(n:Int):Cs .u8 (Cs .i64 n)=Int.ofNat (wb n):=by
 rw[L7,L7];unfold wb;have h1:IntKind.u8.wrap (IntKind.i64.wrap n)=(IntKind.i64.wrap n)%256:=rfl;have h2:(IntKind.i64.wrap n)%256=n%256:=by
  simp only[IntKind.wrap,IntKind.bits,IntKind.signed,bF,av];split<;>omega
 rw[h1,h2];show _=(((n%256).toNat:Nat):Int);omega
def kK(x:Int)(bs:List Int)(i:Nat):Wr:=⟨bs.getD i 0,List.replicate 32 (wb (x+i))⟩
def kL(x:Int)(bs:List Int):List Wr:=(List.range bs.length).map (kK x bs)
theorem wX(x:Int)(bs:List Int)(i:Nat):(kK x bs i).Wf:=⟨bW,fun b hb=>by rw[cC hb];exact Bso _⟩
theorem pz(x:Int)(bs:List Int):(kL x bs).length=bs.length:=by unfold kL;simp
theorem Br4(a:Int)(f:bl.length=32):iT (Df [(0,1),(1,32)]) [(0,I a),(1,.agg (Bh bl))] ([EV.int .i64 0]++List.replicate 32 (.int .u8 0))=some (⟨a,bl⟩:Wr).cells:=by
 have hs:=qS [I a] (List.replicate 32 (EV.int .u8 0)) (Bh bl) (by rw[Bf,f];simp);rw[<-Vg]at hs;show Bb (Nat.beq (Fw (Bh bl)) 32) (oB (fun z=>some z) (Nl ([I a]++List.replicate 32 (EV.int .u8 0)) 1 (Bh bl))) none=_;rw[Be,Bf,f,cP,Aj];rw[show(1:Nat) = [I a].length from rfl,hs];rfl
theorem Bpn(w:∀x∈L,x.Wf):∀x∈L.map Wr.cells,x.length=33:=fun x a=>by
 obtain⟨y,f,rfl⟩:=b9.1 a;exact Wr.len (w y f)
theorem Bnl(x:Int)(bs:List Int)(a:i<bs.length):((List.range (i+1)).map (kK x bs)).map Wr.cells=((List.range i).map (kK x bs)).map Wr.cells++[(kK x bs i).cells]:=by
 rw[cu,bZ,bZ];rfl
theorem A8x(hK:1000<K){v1:Nat}(hl:o.bs.length<=1048576):∀(f i:Nat) (h:Ab) (s:EV) (q:Nat),o.bs.length-i<f->i<=o.bs.length->HB h->Ext h0 h->h.get v1=some (.cells o.cells 36)->v1<h0.next->(0<o.bs.length->o.bq<h0.next)->A2h h o.bl o.bq o.bs->Bu h s q 84 33 i (((List.range i).map (kK o.x o.bs)).map Wr.cells).flatten->(0<i->h0.next<=q) ->
 Ok (Fp K f (.ptr v1 0) s o.bl (I o.bs.length) (I i) h) fun v h'=>∃q,jP h' v q (kL o.x o.bs)/\Ext h0 h'/\HB h'/\(0<o.bs.length->h0.next<=q/\q<h'.next):=by
 intro f;induction f with
 | zero=>intro i h s q V;omega
 | succ f W=>
  intro i h s q V hi hb x0 M l1 G O row lq;rw[Fp];simp only[I,Ac];by_cases a:i<o.bs.length
  ·have:decide ((i:Int)<(o.bs.length:Int))=true:=by simp;omega
   simp only[this,Aa,Sq];rw[O.at a];have Z:∀k:EV->R,Et (.ptr v1 1) h k=k (I o.x):=fun k=>Ak M rfl rfl
   simp only[Aa,Z,I,Ac,HJ];rw[Bo3];refine(Bno (K:=K) a_ (wb (o.x+i)) hb).Al ?_;rintro _ h2 ⟨rfl,J,t⟩;rw[show EV.int .i64 o.bs[i]=I o.bs[i]from rfl,Ax (Br4 _ (by simp))];have wf:=wX o.x o.bs i;have ew:(⟨o.bs[i],List.replicate 32 (wb (o.x+i))⟩:Wr)=kK o.x o.bs i:=by
    unfold kK;rw[show o.bs.getD i 0=o.bs[i] by rw[List.getD,aF a];rfl]
   rw[ew];have u:=row.frame (h':=h2) fun y=>J.get _ (hb _ _ (row.block y)) id
   refine Kv u t rfl (by simp) (Wr.len wf) a_ a_ ?_;intro h3 E n3 c3;simp only[Sb,Ac];rw[Ci,show((i:Nat):Int)+1=((i+1:Nat):Int) from a_];have c:Aw (fun j=>0<i/\j=q) h h3:=(Ext.to J).trans c3;have t0:=x0.next
   have t2:=J.next
   refine W (i+1) h3 _ (h2.next+1) a_ a_ (c3.hb t) (x0.then c fun j hj y=>?_) (c.at hb M fun y=>?_) l1 G (O.frame fun y=>c.get _ (by have:=G y;omega) fun z=>?_) ?_ (fun _=>by omega)
   ·have:=lq hj.1;have:=hj.2;omega
   ·have:=lq y.1;have:=y.2;omega
   ·have:=lq z.1;have:=z.2;have:=G y;omega
   ·rw[Bnl _ _ a,cm,show([(kK o.x o.bs i).cells]).flatten=(kK o.x o.bs i).cells from cW _]
    exact E
  ·have:i=o.bs.length:=a_
   subst this;simp only[Int.lt_irrefl,aA,Aa,Sf];have p:∀w∈kL o.x o.bs,w.Wf:=fun w hw=>by unfold kL at hw;obtain⟨i,_,rfl⟩:=b9.1 hw;exact wX _ _ _
   rcases eC o.bs.length with y|y
   ·have e0:kL o.x o.bs = []:=cY (by rw[pz,y])
    rcases row with⟨_,_,rfl|⟨b,rfl⟩⟩|⟨z,_⟩
    ·exact .ret ⟨0,⟨.inl ⟨rfl,e0⟩,p⟩,x0,hb,fun z=>a_⟩
    ·exact .ret ⟨b,⟨.inr ⟨0,0,false,by rw[pz,y],fun j hj=>by rw[pz]at hj;omega⟩,p⟩,x0,hb,fun z=>a_⟩
    ·omega
   ·refine .ret ⟨q,⟨?_,p⟩,x0,hb,fun y=>⟨lq y,hb _ _ (row.block y)⟩⟩
    ·refine .inr ⟨0,o.bs.length,true,by rw[pz];exact row.slice y,fun j hj k=>?_⟩
     rw[bI];refine Cd (row.block y) rfl ?_;have:=HK (n:=33) (l:=(kL o.x o.bs).map Wr.cells) (Bpn fun x U=>by unfold kL at U;obtain⟨i,_,rfl⟩:=b9.1 U;exact wX _ _ _) (j:=j) (by rw[bT];exact hj);rw[List.getElem_map]at this;exact this
end Go.Ev
