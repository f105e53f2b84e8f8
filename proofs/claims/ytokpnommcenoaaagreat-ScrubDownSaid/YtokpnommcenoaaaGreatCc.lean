import Derived.Test.YtokpnommcenoaaaGreatCb
import Derived.Test.YtokpnommcenoaaaGreatEvSix
set_option linter.all false
namespace Go.Ev
open Go.Proofs
set_option maxRecDepth 100000
variable {K d e i j m n dp gq l0 zq:Nat}{x:Int}{Cv cur:Nat->Int}{h h' h0:Ab}{ih0:EV->EV->EV->Ab->R}{S:Mi}{F T:Nat->Prop}{k:EV->Ab->R}{Q:EV->Ab->Prop}{g:Gm}{es:List Me}{Stop:Ab->Prop}{tm:Bb}{L ds:List Nat}{ex:Nat->Ab->List Nat->R}{B:Cb}{X:Co}{disp:Nat->Option FT}
section
theorem Buz:(Ek TT 20 0).2.1 = [8]:=by kernel_rfl
theorem Bt6 {a b:EV}(hj:j<2)(k:EV->R):Azl 2 1 false 1 (.agg [a,b]) (I j) k=k (if j=0 then a else b):=by
 rcases j with _|_|j<;>first|rfl|omega
theorem Bt0 {a:Nat->Int}{o:Nat->Int}(f:i<3)(k:EV->R):Azl 3 2 true 2 (.agg [I (a 0),I (o 0),I (a 1),I (o 1),I (a 2),I (o 2)]) (I i) k=k (.agg [I (a i),I (o i)]):=by
 rcases i with _|_|_|i<;>first|rfl|omega
def Ab5(x z:Int):Bool:=decide (¬x = -1)&&decide (x=z)
theorem Bpj {z:Int}(h:¬x=z):Ab5 x z=false:=by unfold Ab5;rw[aK h,eD]
theorem Bli {z:Int}(h:¬x = -1)(e:x=z):Ab5 x z=true:=by unfold Ab5;rw[aJ h,aJ e];rfl
def A9a(cur Cv:Nat->Int)(z:Int):Nat->Bool
 | 0=>false
 | i+1=>A9a cur Cv z i||(Ab5 (cur i) z||Ab5 (Cv i) z)
def A1o(cur Cv:Nat->Int)(z:Int):Bool:=A9a cur Cv z 3
theorem Be7{z:Int}(a:i<=3)(h:A9a cur Cv z i=true):A1o cur Cv z=true:=by
 have st:∀i,A9a cur Cv z i=true->A9a cur Cv z (i+1)=true:=fun i h=>by
  show(A9a cur Cv z i||(Ab5 (cur i) z||Ab5 (Cv i) z))=true;rw[h];rfl
 unfold A1o;rcases i with _|_|_|_|i
 ·cases h
 ·exact st _ (st _ h)
 ·exact st _ h
 ·exact h
 ·omega
structure Au3(h:Ab)(l0 d0:Nat)(tm:Bb)(b3 b4:Nat)(z:Int)(found:Bool):Prop where
 lp:h.get l0=some (Av TT 20 12 0 tm (if found then .done else .ready) (if found then some .ret else none) d0)
 c3:h.get b3=some (.cells [I z] 3)
 c4:h.get b4=some (.cells [.bool found] 4)
 hb:HB h
section
variable (H:Bw disp){d0 b3 b4:Nat}{z:Int}(t3:tmp tm 3=.ptr b3 0)(t4:tmp tm 4=.ptr b4 0)
include H t3 t4
theorem Bb5(he:1<=e)(G:Au3 h l0 d0 tm b3 b4 z false):
 ∃h',Ag TT disp K (e+1) true l0 [I x] h=some (.bool (decide (¬x=z)),h')/\Au3 h' l0 d0 tm b3 b4 z (decide (x=z))/\Au (fun j=>j=l0\/j=b4) h h':=by
 have D:=G.lp;simp only[aW,aY]at D;have p:=D;have M:=G.c3;have J:=G.c4;have hb:=G.hb;unfold Av at p;rw[Buz]at p;rw[Aoe H he tm h (I x) p,t3,t4];have E:=hb _ _ D;have U:=hb _ _ J;have q:l0≠b3:=Ba D M (by simp[Av]);have a:l0≠b4:=Ba D J (by simp[Av]);have n34:b3≠b4:=Ba M J (by simp[I]);simp only[Ai3,W6 D,Z1,dr];have f:(h.put l0 (Av TT 20 12 0 tm .busy none d0)).get b3=some (.cells [I z] 3):=by rw[Af _ q];exact M
 have t:(h.put l0 (Av TT 20 12 0 tm .busy none d0)).get b4=some (.cells [.bool false] 4):=by rw[Af _ a];exact J
 have u:(h.put l0 (Av TT 20 12 0 tm .busy none d0)).get l0=some (Av TT 20 12 0 tm .busy none d0):=Ae _ _ _;have O:Au (fun j=>j=l0\/j=b4) h (h.put l0 (Av TT 20 12 0 tm .busy none d0)):=(Au.refl h).Ao (.inl (.inl rfl)) E _;have y:HB (h.put l0 (Av TT 20 12 0 tm .busy none d0)):=hb.put E _;have V:(h.put l0 (Av TT 20 12 0 tm .busy none d0)).next=h.next:=rfl
 generalize h.put l0 (Av TT 20 12 0 tm .busy none d0)=W at f t u O y V⊢;simp only[Cz f rfl,Aa,I,Ac];by_cases P:x=z
 ·simp only[P,aB,Aa,aC,aA]
  rw[Aql (o:=0) (n:=1) (v:=.bool true) (l':=[.bool true]) t rfl rfl rfl,Np (by rw[Af _ (cT a)];exact u)];exact⟨_,rfl,⟨Ae _ _ _,by rw[Af _ q,Af _ (cT n34)];exact f,by rw[Af _ a];exact Ae _ _ _,(y.put (by omega) _).put (by rw[Ab.Qg];omega) _⟩,(O.Ao (.inl (.inr rfl)) (by omega) _).Ao (.inl (.inl rfl)) (by rw[Ab.Qg];omega) _⟩
 ·simp only[P,aA,Aa,aF,aB]
  rw[Np u];exact⟨_,rfl,⟨Ae _ _ _,by rw[Af _ q];exact f,by rw[Af _ a];exact t,y.put (by omega) _⟩,O.Ao (.inl (.inl rfl)) (by omega) _⟩
def A0h(h:Ab)(l0 d0:Nat)(tm:Bb)(b3 b4:Nat)(z:Int)(f:Bool):EV->Ab->Prop:=fun _ h'=>Au3 h' l0 d0 tm b3 b4 z f/\Au (fun j=>j=l0\/j=b4) h h'
theorem Bjq(he:2<=e){v10 v11:EV}{y:Int}{f:Bool}(G:Ab5 x z=true->f=true)(J:Ab5 y z=true->f=true)
 (hk:Ab5 x z=false->Ab5 y z=false->∀h,Au3 h l0 d0 tm b3 b4 z false->Au (fun j=>j=l0\/j=b4) h0 h->Ok (Kc (Ag TT disp K e false) (Ag TT disp K e true) K ih0 (.U1 l0) v10 v11 h) (A0h h0 l0 d0 tm b3 b4 z f)) :
 ∀(m j:Nat) (h:Ab),2-j<m->j<=2->(1<=j->Ab5 x z=false)->(2<=j->Ab5 y z=false)->Au3 h l0 d0 tm b3 b4 z false->Au (fun j=>j=l0\/j=b4) h0 h ->
  Ok (El (Ag TT disp K e false) (Ag TT disp K e true) K ih0 m (.U1 l0) v10 v11 (.agg [I x,I y]) (I j) h) (A0h h0 l0 d0 tm b3 b4 z f):=by
 intro m;induction m with
 | zero=>intro j h hm;omega
 | succ m ih=>
  intro j h hm hj Y jy M D;rw[El];simp only[I,Ac];by_cases O:j<2
  ·have e3:decide ((j:Int)<2)=true:=by simp;omega
   simp only[e3,Aa,Aeq];have Z:=fun k=>Bt6 (a:=I x) (b:=I y) O k
   simp only[I]at Z;rw[Z];have go:∀v:Int,(Ab5 v z=true->f=true)->(Ab5 v z=false->(1<=j+1->Ab5 x z=false)/\(2<=j+1->Ab5 y z=false))->Ok (Ko Aoa (bin TT .neq 3) (.int .i64 v) (.int .i64 (-1)) fun p=>Ax (D6 p true)
    (Am (Rf (Ag TT disp K e false) (Ag TT disp K e true) (.U1 l0) [.int .i64 v] h) fun P h=>Aq5 P fun U=>Ia (Ag TT disp K e false) (Ag TT disp K e true) K ih0 (El (Ag TT disp K e false) (Ag TT disp K e true) K ih0 m) (.U1 l0) v10 v11 (.agg [.int .i64 x,.int .i64 y]) (.int .i64 (j:Int)) p U h)
    (Ia (Ag TT disp K e false) (Ag TT disp K e true) K ih0 (El (Ag TT disp K e false) (Ag TT disp K e true) K ih0 m) (.U1 l0) v10 v11 (.agg [.int .i64 x,.int .i64 y]) (.int .i64 (j:Int)) p (.tuple []) h)) (A0h h0 l0 d0 tm b3 b4 z f):=by
    intro v V u;have nx:Ab5 v z=false->∀h2,Au3 h2 l0 d0 tm b3 b4 z false->Au (fun j=>j=l0\/j=b4) h0 h2->Ok (Uc (Ag TT disp K e false) (Ag TT disp K e true) K ih0 (El (Ag TT disp K e false) (Ag TT disp K e true) K ih0 m) (.U1 l0) v10 v11 (.agg [.int .i64 x,.int .i64 y]) (.int .i64 (j:Int)) h2) (A0h h0 l0 d0 tm b3 b4 z f):=by
     intro o h2 q c2;simp only[Uc,Ac];rw[Cg,show((j:Nat):Int)+1=((j+1:Nat):Int) by omega];exact ih (j+1) h2 (by omega) (by omega) (u o).1 (u o).2 q c2
    simp only[Ac];by_cases E:v = -1
    ·simp only[E,aC,aA,Aa,Ac,Ia]
     exact nx (by unfold Ab5;rw[aK (fun y=>y E),ak]) h M D
    ·have W:=E
     simp only[E,aF,aB,Aa,Ac];obtain⟨e,rfl⟩:∃k,e=k+1:=⟨e-1,by omega⟩;obtain⟨h2,r1,q,c2⟩:=Bb5 (K:=K) H t3 t4 (e:=e) (by omega) (x:=v) M;have hc:Rf (Ag TT disp K (e+1) false) (Ag TT disp K (e+1) true) (.U1 l0) [.int .i64 v] h=some (.bool (decide (¬v=z)),h2):=r1;rw[hc,Ap];by_cases t:v=z
     ·have hf:=V (Bli W t)
      simp only[t,aB]at q;simp only[t,aC,aA,Aa,Ia];rw[hf];exact .ret ⟨q,D.trans c2⟩
     ·have o:=Bpj t
      simp only[t,aA]at q;simp only[t,aF,aB,Aa,Ia];exact nx o h2 q (D.trans c2)
   rcases j with _|_|j
   ·exact go x G fun o=>⟨fun _=>o,fun y=>by omega⟩
   ·exact go y J fun o=>⟨fun _=>Y (by omega),fun _=>o⟩
   ·omega
  ·have:j=2:=by omega
   subst this;simp only[show decide (((2:Nat):Int)<2)=false from rfl,Aa];exact hk (Y (by omega)) (jy (by omega)) h M D
theorem Bhe(hK:5<K)(he:2<=e):∀(m i:Nat) (h:Ab),3-i<m->i<=3->A9a cur Cv z i=false->Au3 h l0 d0 tm b3 b4 z false->Au (fun j=>j=l0\/j=b4) h0 h ->
 Ok (F4 (Ag TT disp K e false) (Ag TT disp K e true) K m (.U1 l0) (.agg [I (cur 0),I (Cv 0),I (cur 1),I (Cv 1),I (cur 2),I (Cv 2)]) (I i) h) (A0h h0 l0 d0 tm b3 b4 z (A1o cur Cv z)):=by
 intro m;induction m with
 | zero=>intro i h hm;omega
 | succ m J=>
  intro i h hm W p f D;rw[F4];unfold I;simp only[Ac];by_cases t:i<3
  ·have e3:decide ((i:Int)<3)=true:=by simp;omega
   simp only[e3,Aa,Adx];have E:=fun k=>Bt0 (a:=cur) (o:=Cv) t k
   simp only[I]at E;rw[E]
   try simp only[Aa]
   refine Ok.mk rfl rfl fun h2 q G _=>?_
   have M:Au3 h2 l0 d0 tm b3 b4 z false:=⟨q.at f.hb f.lp,q.at f.hb f.c3,q.at f.hb f.c4,q.hb f.hb⟩;rw[Ah G rfl (v:=I (cur i)) rfl,Ah G rfl (v:=I (Cv i)) rfl,Aw (l:=[I (cur i),I (Cv i)]) rfl];refine Bjq (K:=K) H t3 t4 he (fun u=>Be7 (i:=i+1) (by omega) (by show(_||(Ab5 (cur i) z||Ab5 (Cv i) z))=true;rw[u];simp)) (fun u=>Be7 (i:=i+1) (by omega) (by show(_||(Ab5 (cur i) z||Ab5 (Cv i) z))=true;rw[u];simp)) ?_ K 0 h2 (by omega) (by omega) (fun y=>by omega) (fun y=>by omega) M (D.trans (Ext.to q));intro O P U V c3;simp only[Kc,Ac];rw[Cg,show((i:Nat):Int)+1=((i+1:Nat):Int) by omega];exact J (i+1) U (by omega) (by omega) (by show(A9a cur Cv z i||(Ab5 (cur i) z||Ab5 (Cv i) z))=false;rw[p,O,P];rfl) V c3
  ·have:i=3:=by omega
   subst this;simp only[show decide (((3:Nat):Int)<3)=false from rfl,Aa];rw[show A1o cur Cv z=false from p];exact .ret ⟨f,D⟩
end
section
variable (H:Bw disp)
include H
theorem Bfb(hd:5<=d)(hK:1000<K){ar:Nat}(hA:h.get ar=some (.cells (arC m cur Cv) 212))(hb:HB h)(z:Int):
 Ok (Ag TT disp K d false 20 [.ptr ar 0,I z] h) fun v h'=>v=.bool (A1o cur Cv z)/\Ext h h'/\HB h':=by
 obtain⟨e,rfl⟩:∃k,d=k+2:=⟨d-2,by omega⟩;rw[Aup H (by omega)];simp only[Aqy,I,Aa,Ag0];have O:Ext h (((h.new (.cells [.int .i64 z] 3)).new (.cells [.bool false] 4)).new (.cells [.ptr ar 0] 45)):=((Au.new _ _).C8 _).C8 _;have n1:(((h.new (.cells [.int .i64 z] 3)).new (.cells [.bool false] 4)).new (.cells [.ptr ar 0] 45)).next=h.next+3:=rfl
 have gb:(((h.new (.cells [.int .i64 z] 3)).new (.cells [.bool false] 4)).new (.cells [.ptr ar 0] 45)).get (h.next+2)=some (.cells [.ptr ar 0] 45):=Ad _ _;have g4:(((h.new (.cells [.int .i64 z] 3)).new (.cells [.bool false] 4)).new (.cells [.ptr ar 0] 45)).get (h.next+1)=some (.cells [.bool false] 4):=by
  rw[Ay _ (aR _)];exact Ad _ _
 have g3:(((h.new (.cells [.int .i64 z] 3)).new (.cells [.bool false] 4)).new (.cells [.ptr ar 0] 45)).get h.next=some (.cells [I z] 3):=by
  rw[Ay _ (show h.next<h.next+2 by omega),Ay _ (show h.next<h.next+1 by omega)];exact Ad _ _
 rw[show((h.new (.cells [.int .i64 z] 3)).new (.cells [.bool false] 4)).next=h.next+2 from rfl,show(h.new (.cells [.int .i64 z] 3)).next=h.next+1 from rfl];generalize ((h.new (.cells [.int .i64 z] 3)).new (.cells [.bool false] 4)).new (.cells [.ptr ar 0] 45)=f at O n1 gb g4 g3⊢;have q:=O.hb hb;generalize u:((((((Tr.nil.put 0 (some (EV.ptr ar 0))).put 1 (some (EV.int .i64 z))).put 3 (some (EV.ptr h.next 0))).put 4 (some (EV.ptr (h.next+1) 0))).put 6 (some (EV.ptr ar 0))).put 7 (some (EV.func 148 [] [EV.ptr (h.next+2) 0])))=tm;have t3:tmp tm 3=.ptr h.next 0:=by rw[<-u];simp only[G3,reduceIte,Nat.reduceEqDiff]
 have t4:tmp tm 4=.ptr (h.next+1) 0:=by rw[<-u];simp only[G3,reduceIte,Nat.reduceEqDiff]
 clear u;refine Ok.range ?_;rw[Aq0 H (cU _)];simp only[Aka,dr];have y:Ext f (Ca TT 20 12 0 tm f):=Hg;have k0:(Ca TT 20 12 0 tm f).get f.next=some (.deferred true):=Je
 have k1:(Ca TT 20 12 0 tm f).get (f.next+1)=some (Av TT 20 12 0 tm .ready none f.next):=Hp;generalize Ca TT 20 12 0 tm f=V at y k0 k1⊢;have J:=y.hb q;have W:V.get ar=some (.cells (arC m cur Cv) 212):=y.at q (O.at hb hA);rw[Ah (y.at q gb) rfl (v:=.ptr ar 0) rfl];simp only[Aa];rw[Cn W rfl (show Mj (arC m cur Cv) 1 6=some [I (cur 0),I (Cv 0),I (cur 1),I (Cv 1),I (cur 2),I (Cv 2)]from rfl)];have I3:Au3 V (f.next+1) f.next tm h.next (h.next+1) z false:=⟨k1,y.at q g3,y.at q g4,J⟩
 refine(Bhe (K:=K) H t3 t4 (by omega) (e:=e) (by omega) (cur:=cur) (Cv:=Cv) K 0 V (by omega) (by omega) rfl I3 (Au.refl _)).mono ?_;rintro _ h4 ⟨t,c4⟩;generalize A1o cur Cv z=b at t⊢;have P:=t.hb _ _ t.lp;have kd:h4.get f.next=some (.deferred true):=c4.at J k0 (by omega)
 have x4:Ext h h4:=(O.trans y).then c4 fun i U a=>by omega
 have l5:=t.hb _ _ t.c4;have o:∀(D:Ab) (b:Bool),D.get (h.next+1)=some (.cells [.bool b] 4)->Ii TT [.c (.ptr (h.next+1) 0) 4] D=some (.bool b,D):=by
  intro D b hg;have hr:Iw D (h.next+1) 0 1=some [.bool b]:=by unfold Iw;rw[hg];rfl
  unfold Ii;simp only[Azi,show TT.size 4=some 1 by kernel_rfl,show TT.agg 4=some false by kernel_rfl,hr]
 have lp:=t.lp;cases b with
 | true=>
  simp only[bI]at lp;refine .inr ⟨lp,?_⟩;have p:HB (h4.put (f.next+1) (Av TT 20 12 0 tm .exhausted (some .ret) f.next)):=t.hb.put P _;refine Ok.unwind (cV.2 ⟨by simp,dF⟩) (fun d hd=>by rw[aP]at hd;subst hd;rw[Af _];exact kd) p fun M E _=>?_
  have Y:M.get (h.next+1)=some (.cells [.bool true] 4):=Au.at E p (by rw[Af _];exact t.c4) (by rw[aP];omega);rw[o M true Y];exact .ret ⟨rfl,(x4.Ao (.inr (by omega)) P _).then E fun i U a=>by rw[aP]at U;omega,E.hb p⟩
 | false=>
  simp only[aW,aY]at lp;refine .inl ⟨lp,?_⟩;simp only[Yk,dr];have p:HB (h4.put (f.next+1) (Av TT 20 12 0 tm .exhausted none f.next)):=t.hb.put P _;have Z:(h4.put (f.next+1) (Av TT 20 12 0 tm .exhausted none f.next)).get (h.next+1)=some (.cells [.bool false] 4):=by rw[Af _];exact t.c4
  have x5:Ext h (h4.put (f.next+1) (Av TT 20 12 0 tm .exhausted none f.next)):=x4.Ao (.inr (by omega)) P _;have d5:(h4.put (f.next+1) (Av TT 20 12 0 tm .exhausted none f.next)).get f.next=some (.deferred true):=by rw[Af _];exact kd
  generalize h4.put (f.next+1) (Av TT 20 12 0 tm .exhausted none f.next)=D at p Z x5 d5⊢;have l6:=p _ _ Z;refine Ok.st1 Z rfl rfl (by show 0<1;decide) ?_;have G:HB (D.put (h.next+1) (.cells ([EV.bool false].set 0 (.bool false)) 4)):=p.put l6 _;refine Ok.unwind (cV.2 ⟨by simp,dF⟩) (fun d hd=>by rw[aP]at hd;subst hd;rw[Af _];exact d5) G fun M E _=>?_
  have Y:M.get (h.next+1)=some (.cells [.bool false] 4):=Au.at E G (Ae _ _ _) (by rw[aP];omega);rw[o M false Y];exact .ret ⟨rfl,(x5.Ao (.inr (by omega)) l6 _).then E fun i U a=>by rw[aP]at U;omega,E.hb G⟩
end
end
section
theorem Bld(A:Bw disp)(hK:10000<K)(M:Df h m S F)(hb:HB h)(hd:7<=d)(z:Int)
 (t:∀h' T,Kp T h h'->(∀i,T i->¬F i)->HB h'->Ok (k (.bool (hasB S.ps S.g.D.toNat z)) h') Q):Ok (Am (Cm K (.ptr m 0) h) fun v h=>Am (Ag TT disp K d false 18 [v,I z] h) k) Q:=by
 obtain⟨lt,D,p,bl,ql,np,q,c,G,a⟩:=M.s;rw[Yu a.Hf,Ap];have f:=a.psz.nd;obtain⟨b1,b2,b3⟩:=a.psz.bd;subst f;refine(Bnf (K:=K) A a.Gd hb a.psz.cap (by omega) (by omega) hd (by omega) z).Am ?_;rintro _ h' ⟨rfl,u,o⟩;refine t h' _ u (fun i E y=>?_) o;obtain⟨d,hd,rfl⟩:=E;exact(a.sub.2.2.2.2.2 d hd).2.2 y
theorem Biy(hK:10000<K)(M:Df h m S F)(hb:HB h)
 (o:∀h',Ext h h'->Ok (k (I (Aad S.ps S.g.D.toNat)) h') Q):Ok (Am (Cm K (.ptr m 0) h) fun v h=>Am (Ig K v h) k) Q:=by
 obtain⟨lt,D,p,bl,ql,np,q,c,G,a⟩:=M.s;rw[Yu a.Hf,Ap];have f:=a.psz.nd;subst f;refine(Bar (K:=K) a.Gd hb a.psz.small (by omega)).Am ?_;rintro _ h' ⟨rfl,x⟩;exact o h' x
structure Qt(F:Nat->Prop)(h h':Ab):Prop where
 Mn:∃T,Kp T h h'/\∀i,T i->¬F i
 hb:HB h'
theorem Qt.refl(hb:HB h):Qt F h h:=⟨⟨fun _=>False,Kp.refl _,fun _ y=>y.elim⟩,hb⟩
theorem Qt.ext(x:Ext h h')(hb:HB h):Qt F h h':=⟨⟨fun _=>False,Ext.kp x,fun _ y=>y.elim⟩,x.hb hb⟩
theorem Qt.trans{a b c:Ab}(x:Qt F a b)(y:Qt F b c):Qt F a c:=by
 obtain⟨⟨T,k,t⟩,_⟩:=x;obtain⟨⟨U,l,u⟩,hb⟩:=y;refine⟨⟨fun i=>T i\/U i,Kp.trans ⟨k.chg.mono fun i=>.inl,k.same⟩ ⟨l.chg.mono fun i=>.inr,l.same⟩,fun i f=>f.elim (t i) (u i)⟩,hb⟩
theorem Cu.rd(C:Cu h B X F)(r:Qt F h h'):Ex h h' B X F X:=by
 obtain⟨⟨T,k,t⟩,_⟩:=r;exact C.toK k t
theorem Qt.same(r:Qt F h h')(a:i<h.next):h'.get i=h.get i:=by
 obtain⟨⟨T,k,t⟩,_⟩:=r;exact k.same i a
theorem Qt.at(r:Qt F h h')(hb:HB h){o:By}(g:h.get i=some o):h'.get i=some o:=by rw[r.same (hb _ _ g)];exact g
theorem Qt.next(r:Qt F h h'):h.next<=h'.next:=by
 obtain⟨⟨T,k,t⟩,_⟩:=r;exact k.chg.next
theorem Qt.chg(r:Qt F h h'):Kf F h h':=by
 obtain⟨⟨T,k,t⟩,_⟩:=r;exact k.chg.mono t
def Co.closed(X:Co)(z:Int):Bool:=decide (0<=Eu X.S.g z)&&(decide (¬z=X.S.a)&&(decide (¬z=X.S.b)&&(!X.S.Jr z&&(!A1o X.cur X.Cv z&&!hasB X.S.ps X.S.g.D.toNat z))))
theorem Arl(A:Bw disp)(hK:10000<K)(C:Cu h B X F)(hd:8<=d){z:Int}(u:Qu z):Ok (Ag TT disp K d false 21 [.ptr B.c 0,I z] h) fun v h'=>v=.bool (X.closed z)/\Qt F h h':=by
 obtain⟨e,rfl⟩:∃k,d=k+1:=⟨d-1,by omega⟩;rw[Ao9 A (by omega)];simp only[Akw,Aa];rw[C.ldM,A91 C.M]
 try simp only[Aa]
 rw[C.ldM];refine(Mx (K:=K) C.M C.hb).Am ?_;rintro _ h2 ⟨rfl,W⟩;refine(Jh (K:=K) C.sm z u h2).Am ?_;rintro _ E ⟨rfl,Y⟩;have x:Ext h E:=W.trans Y;have f:=(C.Xa x).C;have p:Qt F h E:=Qt.ext x C.hb;unfold Co.closed;simp only[I,Ac];have Z:D6 (.tuple []) false=false/\D6 (.tuple []) true=false:=⟨rfl,rfl⟩;by_cases c1:0<=Eu X.S.g z
 case neg=>
  simp only[c1,aA,Aa,Ac,Um,Ox,H9,F9,E9,ak];exact .ret ⟨rfl,p⟩
 simp only[c1,aB,Aa,Ac,Um,bD];by_cases c2:z=X.S.a
 ·simp only[c2,aC,aA,Aa,Ac,Ox,H9,F9,E9,ak]
  exact .ret ⟨rfl,p⟩
 simp only[c2,aF,aB,Aa,Ac,Ox,bD];by_cases c3:z=X.S.b
 ·simp only[c3,aC,aA,Aa,Ac,H9,F9,E9,ak]
  exact .ret ⟨rfl,p⟩
 simp only[c3,aF,aB,Aa,Ac,bD];rw[f.ldM];refine(Jg (K:=K) f.M.s f.hb u).Am ?_;rintro _ h4 ⟨rfl,G⟩;have J:Qt F h h4:=p.trans (Qt.ext G f.hb);have o:=(f.Xa G).C;cases X.S.Jr z with
 | true=>
  simp only[Aa,Ac,H9,F9,E9,eH,ak];exact .ret ⟨rfl,J⟩
 | false=>
 simp only[Aa,Ac,H9,cp,bD];rw[o.Gy];have O:=Bfb (K:=K) A (d:=e) (by omega) (by omega) o.ar o.hb z;simp only[I]at O;refine O.Am ?_;rintro _ h5 ⟨rfl,P,_⟩;have U:Qt F h h5:=J.trans (Qt.ext P o.hb);have q:=(o.Xa P).C;cases A1o X.cur X.Cv z with
 | true=>
  simp only[Aa,Ac,F9,E9,eH,ak];exact .ret ⟨rfl,U⟩
 | false=>
 simp only[Aa,Ac,F9,cp,bD];rw[q.ldM];refine Bld A hK q.M q.hb (d:=e) (by omega) z fun h6 T k6 t6 t=>?_
 have V:Qt F h h6:=U.trans ⟨⟨T,k6,fun i hi y=>t6 i hi (.inl y)⟩,t⟩;cases hasB X.S.ps X.S.g.D.toNat z with
 | true=>
  simp only[Aa,Ac,E9,eH];exact .ret ⟨rfl,V⟩
 | false=>
  simp only[Aa,Ac,E9,cp];exact .ret ⟨rfl,V⟩
def Co.dead(X:Co)(z:Int):Bool:=X.closed z&&decide (Aqk X.S.g X.es z=0)
theorem Bft(A:Bw disp)(hK:10000<K)(C:Cu h B X F)(hd:9<=d){z:Int}(o:Qu z):Ok (Ag TT disp K d false 142 [.ptr B.c 0,I z] h) fun v h'=>v=.bool (X.dead z)/\Qt F h h':=by
 obtain⟨e,rfl⟩:∃k,d=k+1:=⟨d-1,by omega⟩;rw[Auk A (by omega)];simp only[Aqj,Aa];refine(Arl A hK C (d:=e) (by omega) o).Am ?_;rintro _ h2 ⟨rfl,a⟩;have f:=(C.rd a).C;unfold Co.dead;have p:D6 (.tuple []) false=false/\D6 (.tuple []) true=false:=⟨rfl,rfl⟩;cases X.closed z with
 | false=>
  simp only[Aa,Ac,Ya,ak];exact .ret ⟨rfl,a⟩
 | true=>
  simp only[Aa,Ac,bD];rw[f.ldB,Ail f.map];simp only[Aa,I,Ac,Ya];exact .ret ⟨rfl,a⟩
theorem Sm.Agt(s:Sm g):3<=g.D*g.Z/\g.D*g.Z<=512:=by
 have:=s.d0;have:=s.d1;have:=s.z0;have:=s.z1;obtain⟨f,o⟩:=N3 (a:=g.D) (b:=g.Z) (A:=8) (B:=64) (by omega) (by omega) (by omega) (by omega);have:g.D*1<=g.D*g.Z:=eA (by omega) (by omega);omega
theorem Ao2(A:Bw disp)(C:Cu h B X F)(a:∀h',Ext h h'->Ok (k (I (X.S.g.D*X.S.g.Z)) h') Q):Ok (Am (Cd K (.ptr B.m 0) h) fun v h=>Am (Dp K v h) k) Q:=by
 refine(Mx (K:=K) C.M C.hb).Am ?_;rintro _ h2 ⟨rfl,f⟩;rw[Ni C.sm,Ap];exact a _ (f.C8 _)
theorem Bht(A:Bw disp)(hK:10000<K)(y:X.S.g.D*X.S.g.Z=n)(hd:9<=d):∀(f i:Nat) (h:Ab),n-i<f->i<=n->Cu h B X F ->
 Ok (Nd (Ag TT disp K d false) (Ag TT disp K d true) K f (.ptr B.c 0) (I n) (I i) h) fun v h'=>(∃b,v=.bool b)/\Qt F h h':=by
 intro f;induction f with
 | zero=>intro i h p;omega
 | succ f q=>
  intro i h p E C;have bd:=C.sm.Agt;rw[Nd];simp only[I,Ac];by_cases t:i<n
  ·have:decide ((i:Int)<(n:Int))=true:=by simp;omega
   simp only[this,Aa,Ai2];refine(Bft A hK C hd (z:=i) ⟨by omega,by omega⟩).Am ?_;rintro _ h2 ⟨rfl,o⟩;cases X.dead i with
   | true=>
    simp only[Aa];exact .ret ⟨⟨_,rfl⟩,o⟩
   | false=>
    simp only[Aa,Aiu,Ac];rw[Cg,show((i:Nat):Int)+1=((i+1:Nat):Int) by omega];refine(q (i+1) h2 (by omega) (by omega) (C.rd o).C).mono ?_;rintro v G ⟨a,u⟩;exact⟨a,o.trans u⟩
  ·have:decide ((i:Int)<(n:Int))=false:=by simp;omega
   simp only[this,Aa,Ahh];exact .ret ⟨⟨_,rfl⟩,Qt.refl C.hb⟩
theorem Bri(A:Bw disp)(hK:10000<K)(C:Cu h B X F)(hd:10<=d):Ok (Ag TT disp K d false 198 [.ptr B.c 0] h) fun v h'=>(∃b,v=.bool b)/\Qt F h h':=by
 obtain⟨e,rfl⟩:∃k,d=k+1:=⟨d-1,by omega⟩;rw[Auo A (by omega)];simp only[Aqo,Aa];rw[C.ldM];refine Ao2 A C fun h2 f=>?_
 have bd:=C.sm.Agt;obtain⟨n,o⟩:=aZ (show 0<=X.S.g.D*X.S.g.Z by omega);rw[o];refine(Bht A hK o (d:=e) (by omega) K 0 h2 (by omega) (by omega) (C.Xa f).C).mono ?_;rintro v q ⟨a,p⟩;exact⟨a,(Qt.ext f C.hb).trans p⟩
end
section
theorem Buw:(Ek TT 80 0).2.1 = [8,9]:=by kernel_rfl
def inB(z:Int)(x:Me):Bool:=decide (x.state=1)&&(decide (x.An=z)||decide (x.Bt=z))
def ItS(N:Nat)(i:Nat):Prop:=N<=i/\i<N+4
structure A80(h:Ab)(N:Nat)(tm:Bb)(l0:Nat)(stop:Bool):Prop where
 y:h.get N=some (.cells [.U1 l0] 42)
 d:h.get (N+2)=some (.deferred true)
 l:h.get (N+3)=some (Av TT 80 31 0 tm (if stop then .done else .ready) (if stop then some .ret else none) (N+2))
 lt:N+4<=h.next
structure Bok(disp:Nat->Option FT)(K e l0 zq b ml ll:Nat)(g:Gm)(es:List Me)(z:Int)(N:Nat)(Inv:Nat->Ab->Prop)(Stop:Ab->Prop):Prop where
 frI:∀j h h',Inv j h->Au (ItS N) h h'->Inv j h'
 frS:∀h h',Stop h->Au (ItS N) h h'->Stop h'
 Dt:∀j (hj:j<es.length) h,inB z es[j]=true->Inv j h->N+4<=h.next->∃more h',Ag TT disp K e true l0 [I j] h=some (.bool more,h')/\Au (fun i=>¬ItS N i) h h'/\(if more=true then Inv (j+1) h' else Stop h')
 skp:∀j (hj:j<es.length) h,inB z es[j]=false->Inv j h->Inv (j+1) h
 hbI:∀j h,Inv j h->HB h
 hbS:∀h,Stop h->HB h
 map:∀j h,Inv j h->Lj h b ml ll g es
 zon:∀j h,Inv j h->h.get zq=some (.cells [I z] 3)
section
variable (H:Bw disp){b ml ll:Nat}{z:Int}{N:Nat}{Inv:Nat->Ab->Prop}(c:Bok disp K e l0 zq b ml ll g es z N Inv Stop)(t2:tmp tm 2=.ptr zq 0)(t3:tmp tm 3=.ptr N 0)(lz:zq<N)(he:2<=e)
include H c t2 t3 lz he
theorem Bky(hj:j<es.length)(S0:A80 h N tm l0 false)(I0:Inv j h):
 ∃more h',Ag TT disp K (e+1) true (N+3) [I j,.agg es[j].cells] h=some (.bool more,h')/\A80 h' N tm l0 (!more)/\(if more=true then Inv (j+1) h' else Stop h'):=by
 have W:=S0.l;simp only[aW,aY]at W;have a:=W;have hb:=c.hbI _ _ I0;have Dt:=c.Dt j hj;have skp:=c.skp j hj;generalize es[j]=x at Dt skp⊢;unfold Av at a;rw[Buw]at a;rw[Ap4 H he tm h (I j) _ a,t2,t3];simp only[Aj2,Aa];rw[Aql (h:=h.new (.cells [EV.int .i64 0,.int .i64 0,.int .i64 0,.int .i64 0,.int .i64 0,.int .i64 0] 53)) (i:=h.next) (o:=0) (n:=6) (v:=.agg x.cells) (l:=[EV.int .i64 0,.int .i64 0,.int .i64 0,.int .i64 0,.int .i64 0,.int .i64 0]) (l':=x.cells) (t:=53) (Ad _ _) rfl rfl rfl];obtain⟨f,e_,u,e3,_⟩:=nP h (.cells [EV.int .i64 0,.int .i64 0,.int .i64 0,.int .i64 0,.int .i64 0,.int .i64 0] 53) (.cells x.cells 53);rw[e_];have Y:=u.hb hb;have q0:=u.at hb W;have l3:=Y _ _ q0;rw[W6 q0];have D:ItS N (N+3):=⟨by omega,by omega⟩;have c4:Au (ItS N) h (f.put (N+3) (Av TT 80 31 0 tm .busy none (N+2))):=(Ext.to (S:=ItS N) u).Ao (.inl D) l3 _;have r0:(f.put (N+3) (Av TT 80 31 0 tm .busy none (N+2))).get (N+3)=some (Av TT 80 31 0 tm .busy none (N+2)):=Ae _ _ _;have E:(f.put (N+3) (Av TT 80 31 0 tm .busy none (N+2))).get N=some (.cells [.U1 l0] 42):=by rw[Af _];exact u.at hb S0.y
 have rd:(f.put (N+3) (Av TT 80 31 0 tm .busy none (N+2))).get (N+2)=some (.deferred true):=by rw[Af _];exact u.at hb S0.d
 have P:(f.put (N+3) (Av TT 80 31 0 tm .busy none (N+2))).get h.next=some (.cells x.cells 53):=by rw[Af _ (by have:=S0.lt;omega)];exact e3
 have G:=c.frI _ _ _ I0 c4;have J:h.next<=(f.put (N+3) (Av TT 80 31 0 tm .busy none (N+2))).next:=c4.next
 generalize f.put (N+3) (Av TT 80 31 0 tm .busy none (N+2))=h4 at c4 r0 E rd P G J⊢;have p:=c.hbI _ _ G;have rz:=c.zon _ _ G;have l4:=p _ _ r0;have Z:=S0.lt;have ao:D6 (.tuple []) false=false/\D6 (.tuple []) true=false:=⟨rfl,rfl⟩;have no:inB z x=false->∃more h',V6 (N+3) true .ready none h4=some (.bool more,h')/\A80 h' N tm l0 (!more)/\(if more=true then Inv (j+1) h' else Stop h'):=fun hn=>by
  rw[Np r0];refine⟨true,_,rfl,⟨by rw[Af _];exact E,by rw[Af _];exact rd,Ae _ _ _,by rw[Ab.Qg];omega⟩,?_⟩;rw[aQ rfl];exact c.frI _ _ _ (skp h4 hn G) ((Au.refl (S:=ItS N) h4).Ao (.inl D) l4 _)
 have yes:inB z x=true->∃more h',Am (Rf (Ag TT disp K e false) (Ag TT disp K e true) (.U1 l0) [.int .i64 (j:Int)] h4) (fun aa h=>Aq5 aa fun ab=>Ix (Ag TT disp K e false) (Ag TT disp K e true) K (N+3) (.bool true) ab h)=some (.bool more,h')/\A80 h' N tm l0 (!more)/\(if more=true then Inv (j+1) h' else Stop h'):=fun hy=>by
  obtain⟨more,U,e5,c5,i5⟩:=Dt h4 hy G (bQ Z J);have hc:Rf (Ag TT disp K e false) (Ag TT disp K e true) (.U1 l0) [.int .i64 (j:Int)] h4=some (.bool more,U):=e5;rw[hc,Ap];have kp:∀k o,ItS N k->h4.get k=some o->U.get k=some o:=fun k o hk g=>c5.at p g fun y=>y hk
  have q:=kp _ _ D r0;have M:=kp N _ ⟨by omega,by omega⟩ E;have O:=kp (N+2) _ ⟨by omega,by omega⟩ rd;have ad:=c5.hb p;have l5:=ad _ _ q;have ay:=c5.next
  cases more with
  | true=>
   simp only[Aa,Ac,Ix];rw[Np q];refine⟨true,_,rfl,⟨by rw[Af _];exact M,by rw[Af _];exact O,Ae _ _ _,by rw[Ab.Qg];omega⟩,?_⟩;rw[aQ rfl]at i5⊢;exact c.frI _ _ _ i5 ((Au.refl (S:=ItS N) U).Ao (.inl D) l5 _)
  | false=>
   simp only[Aa,Ac,Ix];rw[Np q];refine⟨false,_,rfl,⟨by rw[Af _];exact M,by rw[Af _];exact O,Ae _ _ _,by rw[Ab.Qg];omega⟩,?_⟩;rw[aM (by simp)]at i5⊢;exact c.frS _ _ i5 ((Au.refl (S:=ItS N) U).Ao (.inl D) l5 _)
 simp only[Abp,Aa];rw[Ah P rfl (v:=I x.state) rfl];unfold inB at no yes;simp only[I,Ac];by_cases s1:x.state=1
 case neg=>
  simp only[s1,aA,Aa,Ac,Pq,L2,L5,Ix];exact no (by rw[aK s1,ak])
 simp only[s1,aB,Aa,Ac];rw[Ah P rfl (v:=I x.An) rfl,Ah rz rfl (v:=I z) rfl];simp only[I,Ac];by_cases z1:x.An=z
 ·simp only[z1,aB,Aa,Ac,Pq,L2,L5]
  rw[Ah E rfl (v:=.U1 l0) rfl];exact yes (by rw[aJ s1,aJ z1];rfl)
 simp only[z1,aA,Aa,Ac,Pq];rw[Ah P rfl (v:=I x.Bt) rfl,Ah rz rfl (v:=I z) rfl];simp only[I,Ac];by_cases V:x.Bt=z
 ·simp only[V,aB,Aa,Ac,L2,L5]
  rw[Ah E rfl (v:=.U1 l0) rfl];exact yes (by rw[aJ s1,aJ V,Bool.or_true];rfl)
 simp only[V,aA,Aa,Ac,L2,L5,Ix];exact no (by rw[aK z1,aK V,Bool.or_false,eD])
theorem Bqi(D:es.length<=256):∀(m i:Nat) (h:Ab),es.length-i<m->i<=es.length->A80 h N tm l0 false->Inv i h ->
 Ok (Ci (Ag TT disp K (e+1) false) (Ag TT disp K (e+1) true) K m (.U1 (N+3)) (.slice ml 0 es.length es.length false) (I es.length) (I i) h) fun _ h'=>∃stop,A80 h' N tm l0 stop/\(if stop=true then Stop h' else Inv es.length h')/\HB h':=by
 intro m;induction m with
 | zero=>intro i h hm;omega
 | succ m q=>
  intro i h hm E S0 f;have hb:=c.hbI _ _ f;have t:=(c.map _ _ f).row;rw[Ci];simp only[I,Ac,Aa];by_cases a:i<es.length
  ·have:decide ((i:Int)<(es.length:Int))=true:=by simp;omega
   simp only[this,Aa,Fp];rw[N5 a,bF,Cn t rfl (Az4 es a)]
   try simp only[Aa]
   have rd:=fun h S0 f=>Bky (K:=K) H c t2 t3 lz he a (h:=h) S0 f
   generalize es[i]=x at rd⊢;refine Ok.mk rfl rfl fun p o e3 _=>?_
   rw[Cn e3 rfl (Ak (n:=6) rfl)];have S3:A80 p N tm l0 false:=⟨o.at hb S0.y,o.at hb S0.d,o.at hb S0.l,bQ S0.lt o.next⟩;obtain⟨more,h4,u,S4,i4⟩:=rd p S3 (c.frI _ _ _ f (Ext.to o));have v:Rf (Ag TT disp K (e+1) false) (Ag TT disp K (e+1) true) (.U1 (N+3)) [.int .i64 (i:Int),.agg x.cells] p=some (.bool more,h4):=u;rw[v,Ap];cases more with
   | false=>
    simp only[Aa];rw[aM (by simp)]at i4;refine .ret ⟨true,S4,by rw[aQ rfl];exact i4,?_⟩;exact c.hbS _ i4
   | true=>
    simp only[Aa,Fs,Ac];rw[aQ rfl]at i4;rw[Cg,show((i:Nat):Int)+1=((i+1:Nat):Int) by omega];exact q (i+1) h4 (by omega) (by omega) S4 i4
  ·have:decide ((i:Int)<(es.length:Int))=false:=by simp;omega
   have:i=es.length:=by omega
   subst this;simp only[Aa,aA,Int.lt_irrefl];exact .ret ⟨false,S0,by rw[aM (by simp)];exact f,hb⟩
end
theorem Btw(H:Bw disp)(hK:1000<K){J b ml ll:Nat}{z:Int}{Inv:Nat->Ab->Prop}(c:Bok disp K e l0 zq b ml ll g es z h0.next Inv Stop)(he:2<=e)(s:Sm g)(gv:h0.get J=some (.cells [.ptr b 0] 49))(y:Inv 0 h0):
 Ok (Ag TT disp K (e+3) false 80 [.U1 l0,.ptr J 0,.ptr zq 0] h0) fun v h'=>v=.tuple []/\(Inv es.length h'\/Stop h'):=by
 have:=s.b0;have:=s.b1;have hb:=c.hbI _ _ y;have mp:=c.map _ _ y;have gz:=c.zon _ _ y;have hlen:=mp.len;have lz:=hb _ _ gz;have lm:=hb _ _ mp.row;rw[Av9 H (by omega)];simp only[Asd,dr];rw[Bp0 rfl];obtain⟨a,e_,D,y1,n1⟩:=nW h0 (.cells (EV.U1 l0).cells 42);rw[e_];have p:=D.hb hb;rw[Ah (D.at hb gv) rfl (v:=.ptr b 0) rfl];simp only[Yl,Aa,E5];rw[Ah (D.at hb mp.map) rfl (v:=.slice ml 0 g.B.toNat g.B.toNat false) rfl,<-hlen];simp only[Aa];have E:Ext a (a.new (.cells [.slice ml 0 es.length es.length false] 141)):=Au.new _ _;have W:(a.new (.cells [.slice ml 0 es.length es.length false] 141)).get a.next=some (.cells [.slice ml 0 es.length es.length false] 141):=Ad _ _
 have Y:(a.new (.cells [.slice ml 0 es.length es.length false] 141)).next=h0.next+2:=by rw[Ab.Di,n1]
 generalize a.new (.cells [.slice ml 0 es.length es.length false] 141)=h2 at E W Y⊢;have q:=E.hb p;generalize f:(((((Tr.nil.put 0 (some (EV.U1 l0))).put 1 (some (EV.ptr J 0))).put 2 (some (EV.ptr zq 0))).put 3 (some (EV.ptr h0.next 0))).put 6 (some (EV.ptr b 0))).put 7 (some (EV.func 201 [] [EV.ptr a.next 0]))=tm;have t2:tmp tm 2=.ptr zq 0:=by rw[<-f];simp only[G3,reduceIte,Nat.reduceEqDiff]
 have t3:tmp tm 3=.ptr h0.next 0:=by rw[<-f];simp only[G3,reduceIte,Nat.reduceEqDiff]
 clear f;refine Ok.range ?_;have t:Ext h2 (Ca TT 80 31 0 tm h2):=Hg;have M:(Ca TT 80 31 0 tm h2).get h2.next=some (.deferred true):=Je
 have O:(Ca TT 80 31 0 tm h2).get (h2.next+1)=some (Av TT 80 31 0 tm .ready none h2.next):=Hp;have n3:(Ca TT 80 31 0 tm h2).next=h2.next+2:=rfl
 generalize Ca TT 80 31 0 tm h2=P at t M O n3⊢;have ag:=t.hb q;rw[Y]at M O n3⊢;have U:Ext h0 P:=(D.trans E).trans t;rw[Jb H (cU _)];simp only[Gf,dr];rw[Ah (t.at q W) rfl (v:=.slice ml 0 es.length es.length false) rfl];simp only[Aa];have S3:A80 P h0.next tm l0 false:=⟨Ext.at (E.trans t) p y1,M,O,by omega⟩
 have I3:=c.frI _ _ _ y (Ext.to U);refine(Bqi (K:=K) H c t2 t3 lz he (by omega) K 0 P (by omega) (by omega) S3 I3).mono ?_;rintro _ h4 ⟨stop,S4,i4,o⟩;have lp:=S4.l;have G:=o _ _ lp;have ai:=S4.lt;have sd:ItS h0.next (h0.next+2):=⟨by omega,by omega⟩
 have Z:ItS h0.next (h0.next+3):=⟨by omega,by omega⟩
 cases stop with
 | true=>
  simp only[bI]at lp i4;refine .inr ⟨lp,?_⟩;have d5:(h4.put (h0.next+2+1) (Av TT 80 31 0 tm .exhausted (some .ret) (h0.next+2))).get (h0.next+2)=some (.deferred true):=by rw[Af _];exact S4.d
  refine Ok.unwind (cV.2 ⟨by simp,dF⟩) (fun d hd=>by rw[aP]at hd;subst hd;exact d5) (o.put G _) fun h6 V _=>?_
  refine .ret ⟨rfl,.inr (c.frS _ _ i4 (((Au.refl (S:=ItS h0.next) h4).Ao (.inl Z) G _).trans (V.mono fun i u=>by rw[aP]at u;subst u;exact sd)))⟩
 | false=>
  simp only[aW,aY]at lp i4;refine .inl ⟨lp,?_⟩;have d5:(h4.put (h0.next+2+1) (Av TT 80 31 0 tm .exhausted none (h0.next+2))).get (h0.next+2)=some (.deferred true):=by rw[Af _];exact S4.d
  refine Ok.unwind (cV.2 ⟨by simp,dF⟩) (fun d hd=>by rw[aP]at hd;subst hd;exact d5) (o.put G _) fun h6 V _=>?_
  refine .ret ⟨rfl,.inl (c.frI _ _ _ i4 (((Au.refl (S:=ItS h0.next) h4).Ao (.inl Z) G _).trans (V.mono fun i u=>by rw[aP]at u;subst u;exact sd)))⟩
end
section
theorem Qt.Ajy(q:Qt F h0 h)(c:Au T h h')(t:∀i,T i->h0.next<=i):Qt F h0 h':=by
 obtain⟨⟨U,k,u⟩,hb⟩:=q;exact⟨⟨U,k.A8b c t,u⟩,c.hb hb⟩
theorem Ok.Arp(H:Bw disp)(hK:1000<K){a b ml ll:Nat}{z:Int}{Inv:Nat->Ab->Prop}{fn:Nat}{k:Ab->List Nat->R}{ret:Ab->List Nat->R}
 (c:Bok disp K e (h.next+1) zq b ml ll g es z (h.next+2) Inv Stop) (he:2<=e) (s:Sm g) (f:h.get a=some (.cells [.ptr b 0] 49)) (hb:HB h) (o:Inv 0 (Ca TT fn n i tm h))
 (p:∀h',Inv es.length h'->h'.get (h.next+1)=some (Av TT fn n i tm .ready none h.next)/\Ok (k (h'.put (h.next+1) (Av TT fn n i tm .exhausted none h.next)) (h.next::ds)) Q)
 (q:∀h',Stop h'->h'.get (h.next+1)=some (Av TT fn n i tm .done (some .ret) h.next)/\Ok (ret (h'.put (h.next+1) (Av TT fn n i tm .exhausted (some .ret) h.next)) (h.next::ds)) Q) :
 Ok (Uv (Ag TT disp K (e+3) false) TT fn n i (.func 80 [] [.ptr a 0,.ptr zq 0]) tm h ds k ex ret) Q:=by
 refine Ok.range ((Btw (K:=K) H hK (h0:=Ca TT fn n i tm h) c he s (Hg.at hb f) o).mono ?_);rintro _ h' ⟨rfl,y|y⟩
 ·exact .inl (p h' y)
 ·exact .inr (q h' y)
def A24(S:Mi)(x:Me):Bool:=!S.Jr x.An&&!S.Jr x.Bt
def Ajj(S:Mi)(z:Int)(es:List Me):Bool:=es.all fun x=>!inB z x||A24 S x
theorem A00{z:Int}(hj:j<es.length):Ajj S z (es.take (j+1))=(Ajj S z (es.take j)&&(!inB z es[j]||A24 S es[j])):=by
 unfold Ajj;rw[List.take_add_one,List.all_append,aH hj];simp
theorem Boe{z:Int}(hj:j<es.length)(a:inB z es[j]=true)(f:A24 S es[j]=false):Ajj S z es=false:=by
 unfold Ajj;rw[List.all_eq_false];exact⟨es[j],av hj,by rw[a,f];simp⟩
structure A52(F:Nat->Prop)(h0 h:Ab)(l0:Nat)(tm:Bb)(B:Cb)(zq:Nat)(z:Int)(stop:Bool):Prop where
 q:Qt F h0 h
 lp:h.get l0=some (Av TT 84 40 0 tm (if stop then .done else .ready) (if stop then some .ret else none) (l0-1))
 dd:h.get (l0-1)=some (.deferred true)
 c2:h.get h0.next=some (.cells [.ptr B.c 0] 26)
 c4:h.get (h0.next+1)=some (.cells [.bool false] 4)
 zq:h.get zq=some (.cells [I z] 3)
theorem A52.chg{z:Int}{stop:Bool}(w:A52 F h0 h l0 tm B zq z stop)(c:Au T h h')(t:∀i,T i->l0<i)(l:h0.next+1<l0)(lz:zq<l0):A52 F h0 h' l0 tm B zq z stop:=by
 have kp:∀i o,h.get i=some o->i<=l0->h'.get i=some o:=fun i o g a=>c.at w.q.hb g fun y=>by have:=t i y;omega
 exact⟨w.q.Ajy c fun i a=>by have:=t i a;omega,kp _ _ w.lp (aD _),kp _ _ w.dd (by omega),kp _ _ w.c2 (by omega),kp _ _ w.c4 (by omega),kp _ _ w.zq (by omega)⟩
theorem Bup:(Ek TT 84 0).2.1 = [14]:=by kernel_rfl
theorem Brj(hj:j<es.length):Aeu es (j:Int)=(es[j],0):=by
 unfold Aeu;rw[aQ ⟨by omega,by omega⟩,bG,aH hj];rfl
theorem A7l(s:Sm g){x:Me}(h:meR g x=true):Qu x.An/\Qu x.Bt:=by
 obtain⟨_,a,b,_⟩:=Bkp s h;exact⟨⟨by omega,by omega⟩,⟨by omega,by omega⟩⟩
section
variable (A:Bw disp)(hK:10000<K)(C:Cu h0 B X F)
include A C
theorem Bah{z:Int}(t2:tmp tm 2=.ptr h0.next 0)(t4:tmp tm 4=.ptr (h0.next+1) 0)(l:h0.next+1<l0)(lz:zq<l0)(nz:h0.next+1<zq)(he:4<=e)(hj:j<X.es.length)(D:A52 F h0 h l0 tm B zq z false):
 Ok (Ag TT disp K e true l0 [I j] h) fun v h'=>v=.bool (A24 X.S X.es[j])/\Au (fun i=>i=l0\/i=h0.next+1) h h'/\A52 F h0 h' l0 tm B zq z (!A24 X.S X.es[j]):=by
 obtain⟨e,rfl⟩:∃k,e=k+1:=⟨e-1,by omega⟩;have hg:=D.lp;simp only[aW,aY]at hg;have E:=hg;unfold Av at E;rw[Bup]at E;rw[Al2 A (by omega) tm h (I j) E,t2,t4];have hb:=D.q.hb;have P:=hb _ _ hg;simp only[Ag4,W6 hg,Yq,dr];have n4:l0≠h0.next+1:=by omega
 have c1:Au (fun i=>i=l0\/i=h0.next+1) h (h.put l0 (Av TT 84 40 0 tm .busy none (l0-1))):=(Au.refl h).Ao (.inl (.inl rfl)) P _;have g0:(h.put l0 (Av TT 84 40 0 tm .busy none (l0-1))).get l0=some (Av TT 84 40 0 tm .busy none (l0-1)):=Ae _ _ _;have kp:∀i o,h.get i=some o->i≠l0->(h.put l0 (Av TT 84 40 0 tm .busy none (l0-1))).get i=some o:=fun i o g U=>by rw[Af _ (cT U)];exact g
 have gd:=kp _ _ D.dd (by omega);have G:=kp _ _ D.c2 (by omega);have g4:=kp _ _ D.c4 (by omega);have gz:=kp _ _ D.zq (by omega);have q1:Qt F h0 (h.put l0 (Av TT 84 40 0 tm .busy none (l0-1))):=D.q.Ajy ((Au.refl (S:=fun i=>i=l0) h).Ao (.inl rfl) P _) fun i U=>by omega
 clear kp;generalize h.put l0 (Av TT 84 40 0 tm .busy none (l0-1))=h1 at c1 g0 gd G g4 gz q1⊢;have t:=(C.rd q1).C;rw[Ah G rfl (v:=.ptr B.c 0) rfl];simp only[Aa];rw[t.ldB];refine(Tf (K:=K) C.sm t.map t.hb j).Am ?_;rintro _ h2 ⟨rfl,x2⟩;rw[Brj hj];have hx:=C.map.ok _ (av hj);obtain⟨r1,r2⟩:=A7l C.sm hx;unfold A24;generalize X.es[j]=x at r1 r2⊢;simp only[Aa];have ai:=x2.hb t.hb;refine Ok.mk rfl rfl fun h3 x3 e3 _=>?_
 have J:=x2.trans x3;have a:=x3.hb ai;have V:∀{i o},h1.get i=some o->h3.get i=some o:=fun g=>Ext.at J t.hb g
 have C3:=(t.Xa J).C;have l2:=a _ _ (V G);have lc:=a _ _ C3.core;have le:=a _ _ e3;rw[Gy l2,Ah (V G) rfl (v:=.ptr B.c 0) rfl];simp only[Aa,Ar];rw[Gy lc,C3.ldM];simp only[Aa,Ar];rw[Gy le,Ah e3 rfl (v:=I x.An) rfl];simp only[Aa,Ar];refine Ok.bE (Jg (K:=K) (C3.M.same (Ag9.lift _)).s (Da a) r1) (fun _ _ p=>p.2) ?_;rintro _ a7 h4 ⟨rfl,_⟩ _ x4;have ao:=x4.hb a;have u:=J.trans x4;have fin:∀(b:Bool) (y:Ab),Ext h1 y->Ok (Dl (Ag TT disp K e false) (Ag TT disp K e true) K l0 h3.next ⟨0,[],[],[],[]⟩ (.ptr (h0.next+1) 0) (.bool (!b)) (.bool (!b)) y) fun v h'=>v=.bool b/\Au (fun i=>i=l0\/i=h0.next+1) h h'/\A52 F h0 h' l0 tm B zq z (!b):=fun b y O=>by
  have W:=O.hb t.hb;have f:∀{i o},h1.get i=some o->y.get i=some o:=fun g=>Ext.at O t.hb g
  have q5:=q1.trans (Qt.ext O t.hb);have l5:=W _ _ (f g0);have Y:=W _ _ (f g4);have c5:=c1.trans (Ext.to O);cases b with
  | true=>
   simp only[Dl,eH,Aa,Ac];rw[Np (f g0)];exact .ret ⟨rfl,c5.Ao (.inl (.inl rfl)) l5 _,q5.Ajy ((Au.refl (S:=fun i=>i=l0) y).Ao (.inl rfl) l5 _) (fun i U=>by omega),Ae _ _ _,by rw[Af _];exact f gd,by rw[Af _];exact f G,by rw[Af _];exact f g4,by rw[Af _];exact f gz⟩
  | false=>
   simp only[Dl,cp,Aa,Ac];rw[Aql (o:=0) (n:=1) (v:=.bool false) (l':=[.bool false]) (f g4) rfl rfl rfl,Np (by rw[Af _ (cT n4)];exact f g0)];exact .ret ⟨rfl,(c5.Ao (.inl (.inr rfl)) Y _).Ao (.inl (.inl rfl)) l5 _,q5.Ajy (((Au.refl (S:=fun i=>h0.next<=i) y).Ao (.inl (by omega)) Y _).Ao (.inl (by omega)) l5 _) (fun i U=>U),Ae _ _ _,
    by rw[Af _,Af _];exact f gd,by rw[Af _,Af _];exact f G,by rw[Af _];exact Ae _ _ _,by rw[Af _,Af _];exact f gz⟩
 cases X.S.Jr x.An with
 | true=>
  have:=fin false h4 u;simp only[Dl,cp,Aa,Ac]at this;simp only[Aa,Ac,Dl,eH,ak];exact this
 | false=>
 simp only[Aa,Ac,cp,bD];have aq:∀{i o},h1.get i=some o->h4.get i=some o:=fun g=>Ext.at u t.hb g
 have C4:=(t.Xa u).C;rw[Gy l2,Ah (aq G) rfl (v:=.ptr B.c 0) rfl];simp only[Aa,Ar];rw[Gy lc,C4.ldM];simp only[Aa,Ar];rw[Gy le,Ah (x4.at a e3) rfl (v:=I x.Bt) rfl];simp only[Aa,Ar];refine Ok.bE (Jg (K:=K) (C4.M.same (Ag9.lift _)).s (Da ao) r2) (fun _ _ p=>p.2) ?_;rintro _ a8 y ⟨rfl,_⟩ _ O;have Z:=u.trans O;cases X.S.Jr x.Bt with
 | true=>
  have:=fin false y Z;simp only[Dl,cp,Aa,Ac]at this;simp only[Aa,Ac,Dl,eH];exact this
 | false=>
  have:=fin true y Z;simp only[Dl,eH,Aa,Ac]at this;simp only[Aa,Ac,Dl,cp];exact this
include hK
theorem Bl9(hd:8<=d)(z:Int):Ok (Ag TT disp K d false 84 [.ptr B.c 0,I z] h0) fun v h'=>v=.bool (Ajj X.S z X.es)/\Qt F h0 h':=by
 obtain⟨e,rfl⟩:∃k,d=k+3+1:=⟨d-4,by omega⟩;rw[Asa A (by omega)];simp only[Am2,Aa];have hb:=C.hb;have P:Ext h0 ((h0.new (.cells [.ptr B.c 0] 26)).new (.cells [.bool false] 4)):=(Au.new _ _).C8 _;have G:((h0.new (.cells [.ptr B.c 0] 26)).new (.cells [.bool false] 4)).next=h0.next+2:=rfl
 have W:((h0.new (.cells [.ptr B.c 0] 26)).new (.cells [.bool false] 4)).get h0.next=some (.cells [.ptr B.c 0] 26):=by rw[Ay _ (aR _)];exact Ad _ _
 have J:((h0.new (.cells [.ptr B.c 0] 26)).new (.cells [.bool false] 4)).get (h0.next+1)=some (.cells [.bool false] 4):=Ad _ _;rw[show(h0.new (.cells [.ptr B.c 0] 26)).next=h0.next+1 from rfl];generalize (h0.new (.cells [.ptr B.c 0] 26)).new (.cells [.bool false] 4)=o at P G W J⊢;have t:=P.hb hb;have C1:=(C.Xa P).C;rw[Ah W rfl (v:=.ptr B.c 0) rfl];simp only[Aa];rw[C1.ldB];simp only[Ab2,Aa,I];have M:Ext o ((o.new (.cells [.ptr B.b 0] 49)).new (.cells [.int .i64 z] 3)):=(Au.new _ _).C8 _;have n2:((o.new (.cells [.ptr B.b 0] 49)).new (.cells [.int .i64 z] 3)).next=h0.next+4:=by rw[Ab.Di,Ab.Di,G]
 have gv:((o.new (.cells [.ptr B.b 0] 49)).new (.cells [.int .i64 z] 3)).get (h0.next+2)=some (.cells [.ptr B.b 0] 49):=by rw[<-G,Ay _ (aR _)];exact Ad _ _
 have gz:((o.new (.cells [.ptr B.b 0] 49)).new (.cells [.int .i64 z] 3)).get (h0.next+3)=some (.cells [I z] 3):=by rw[show h0.next+3=(o.new (.cells [.ptr B.b 0] 49)).next by rw[Ab.Di,G]];exact Ad _ _
 rw[show(o.new (.cells [.ptr B.b 0] 49)).next=h0.next+3 by rw[Ab.Di,G],G];generalize (o.new (.cells [.ptr B.b 0] 49)).new (.cells [.int .i64 z] 3)=h2 at M n2 gv gz⊢;have f:=M.hb t;have Y:Ext h0 h2:=P.trans M;generalize u:(((((((((Tr.nil.put 0 (some (EV.ptr B.c 0))).put 1 (some (EV.int .i64 z))).put 2 (some (EV.ptr h0.next 0))).put 4 (some (EV.ptr (h0.next+1) 0))).put 8 (some (EV.ptr B.c 0))).put 9 (some (EV.ptr B.c 0))).put 10 (some (EV.ptr B.c 2))).put 11 (some (EV.ptr B.b 0))).put 12 (some (EV.int .i64 z))).put 13 (some (EV.func 80 [] [EV.ptr (h0.next+2) 0,EV.ptr (h0.next+3) 0]))=tm;have t2:tmp tm 2=.ptr h0.next 0:=by rw[<-u];simp only[G3,reduceIte,Nat.reduceEqDiff]
 have t4:tmp tm 4=.ptr (h0.next+1) 0:=by rw[<-u];simp only[G3,reduceIte,Nat.reduceEqDiff]
 clear u;have nl:h2.next+1=h0.next+5:=by omega
 have hlen:=C.map.len;have cl:Bok disp K e (h2.next+1) (h0.next+3) B.b B.ml B.ll X.S.g X.es z (h2.next+2) (fun j h=>A52 F h0 h (h2.next+1) tm B (h0.next+3) z false/\Ajj X.S z (X.es.take j)=true) (fun h=>A52 F h0 h (h2.next+1) tm B (h0.next+3) z true/\Ajj X.S z X.es=false):=by
  refine⟨fun j h h' w c=>⟨w.1.chg c (fun i a=>by have:=a.1;omega) (by omega) (by omega),w.2⟩,fun h h' w c=>⟨w.1.chg c (fun i a=>by have:=a.1;omega) (by omega) (by omega),w.2⟩,fun j hj h a w _=>?_,fun j hj h a w=>⟨w.1,?_⟩,fun j h w=>w.1.q.hb,fun h w=>w.1.q.hb,fun j h w=>(C.rd w.1.q).C.map,fun j h w=>w.1.zq⟩
  ·obtain⟨v,h',e1,rfl,c,w'⟩:=Bah (K:=K) A C t2 t4 (l0:=h2.next+1) (zq:=h0.next+3) (by omega) (by omega) (by omega) (e:=e) (by omega) hj w.1
   refine⟨_,h',e1,c.mono fun i a y=>?_,?_⟩
   ·have:=y.1;omega
   ·cases U:A24 X.S X.es[j]with
    | true=>
     rw[aQ rfl];rw[U]at w';exact⟨w',by rw[A00 hj,w.2,U];simp⟩
    | false=>
     rw[aM (by simp)];rw[U]at w';exact⟨w',Boe hj a U⟩
  ·rw[A00 hj,w.2,a];rfl
 have V:Ext h2 (Ca TT 84 40 0 tm h2):=Hg;have I0:A52 F h0 (Ca TT 84 40 0 tm h2) (h2.next+1) tm B (h0.next+3) z false:=⟨Qt.ext (Y.trans V) hb,Hp,Je,V.at f (M.at t W),V.at f (M.at t J),V.at f gz⟩;refine Ok.Arp (K:=K) A (by omega) cl (by omega) C.sm gv f ⟨I0,rfl⟩ (fun p w=>⟨w.1.lp,?_⟩) fun p w=>⟨w.1.lp,?_⟩
 ·have w2:=w.2
  rw[cL]at w2;rw[w2];have D:=w.1.q.hb;have Z:=D _ _ w.1.lp;have E:Qt F h0 (p.put (h2.next+1) (Av TT 84 40 0 tm .exhausted none h2.next)):=w.1.q.Ajy ((Au.refl (S:=fun i=>i=h2.next+1) p).Ao (.inl rfl) Z _) fun i a=>by omega
  have J:(p.put (h2.next+1) (Av TT 84 40 0 tm .exhausted none h2.next)).get (h0.next+1)=some (.cells [.bool false] 4):=by rw[Af _];exact w.1.c4
  have gd:(p.put (h2.next+1) (Av TT 84 40 0 tm .exhausted none h2.next)).get h2.next=some (.deferred true):=by rw[Af _];exact w.1.dd
  generalize p.put (h2.next+1) (Av TT 84 40 0 tm .exhausted none h2.next)=h4 at E J gd⊢;have l4:=E.hb _ _ J;simp only[Vq,dr];refine Ok.st1 J rfl rfl (by show 0<1;decide) ?_;have q5:Qt F h0 (h4.put (h0.next+1) (.cells ([EV.bool false].set 0 (.bool true)) 4)):=E.Ajy ((Au.refl (S:=fun i=>i=h0.next+1) h4).Ao (.inl rfl) l4 _) fun i a=>by omega
  refine Ok.unwind (cV.2 ⟨by simp,dF⟩) (fun d hd=>by rw[aP]at hd;subst hd;rw[Af _];exact gd) q5.hb fun h6 O _=>?_
  have g6:h6.get (h0.next+1)=some (.cells [.bool true] 4):=Au.at O q5.hb (Ae _ _ _) (by rw[aP];omega);rw[Aku g6];exact .ret ⟨rfl,q5.Ajy O fun i a=>by rw[aP]at a;omega⟩
 ·rw[w.2]
  have D:=w.1.q.hb;have Z:=D _ _ w.1.lp;have E:Qt F h0 (p.put (h2.next+1) (Av TT 84 40 0 tm .exhausted (some .ret) h2.next)):=w.1.q.Ajy ((Au.refl (S:=fun i=>i=h2.next+1) p).Ao (.inl rfl) Z _) fun i a=>by omega
  refine Ok.unwind (cV.2 ⟨by simp,dF⟩) (fun d hd=>by rw[aP]at hd;subst hd;rw[Af _];exact w.1.dd) E.hb fun h6 O _=>?_
  have g6:h6.get (h0.next+1)=some (.cells [.bool false] 4):=Au.at O E.hb (by rw[Af _];exact w.1.c4) (by rw[aP];omega);rw[Aku g6];exact .ret ⟨rfl,E.Ajy O fun i a=>by rw[aP]at a;omega⟩
end
end
section
def blN(z:Int)(es:List Me)(j:Nat):List Nat:=(List.range j).filter fun i=>inB z ((es[i]?).getD (Me.nil 0))
theorem Bsb {z:Int}(hj:j<es.length)(h:inB z es[j]=true):blN z es (j+1)=blN z es j++[j]:=by
 unfold blN;rw[dJ,eI,fJ,aH hj];simp[h]
theorem Bue {z:Int}(hj:j<es.length)(h:inB z es[j]=false):blN z es (j+1)=blN z es j:=by
 unfold blN;rw[dJ,eI,fJ,aH hj];simp[h]
theorem Blp(z:Int)(es:List Me)(j:Nat):(blN z es j).length<=j:=by
 unfold blN;have:=eJ (fun i=>inB z ((es[i]?).getD (Me.nil 0))) (List.range j);simpa using this
def nI(i:Nat):EV:=I (i:Int)
structure Bcq(F:Nat->Prop)(h0 h:Ab)(l0:Nat)(tm:Bb)(zq:Nat)(z:Int)(L:List Nat):Prop where
 q:Qt F h0 h
 lp:h.get l0=some (Av TT 144 19 0 tm .ready none (l0-1))
 dd:h.get (l0-1)=some (.deferred true)
 zq:h.get zq=some (.cells [I z] 3)
 row:∃s qr,h.get h0.next=some (.cells [s] 28)/\Cc h s qr 3 1 L.length (L.map nI)/\(0<L.length->l0+5<=qr)
theorem Bcq.chg{z:Int}(w:Bcq F h0 h l0 tm zq z L)(c:Au T h h')(t:∀i,T i->l0<i/\i<l0+5)(l:h0.next<l0)(lz:zq<l0):Bcq F h0 h' l0 tm zq z L:=by
 have kp:∀i o,h.get i=some o->i<=l0->h'.get i=some o:=fun i o g a=>c.at w.q.hb g fun y=>by have:=t i y;omega
 obtain⟨s,qr,u,f,p⟩:=w.row;exact⟨w.q.Ajy c fun i a=>by have:=t i a;omega,kp _ _ w.lp (aD _),kp _ _ w.dd (by omega),kp _ _ w.zq (by omega),s,qr,kp _ _ u (by omega),f.frame fun y=>c.get _ (w.q.hb _ _ (f.block y)) fun v=>by have:=t _ v;have:=p y;omega,p⟩
theorem Buc:(Ek TT 144 0).2.1 = [13]:=by kernel_rfl
section
variable (A:Bw disp)(hK:10000<K)
include A
theorem A8m{z:Int}(t5:tmp tm 5=.ptr h0.next 0)(l:h0.next+1<l0)(lz:zq<l0)(nz:h0.next<zq)(he:2<=e)(hL:L.length<=256)(nx:l0+5<=h.next)(t:Bcq F h0 h l0 tm zq z L):
 Ok (Ag TT disp K e true l0 [I j] h) fun v h'=>v=.bool true/\Au (fun i=>¬(l0<i/\i<l0+5)) h h'/\Bcq F h0 h' l0 tm zq z (L++[j]):=by
 obtain⟨e,rfl⟩:∃k,e=k+1:=⟨e-1,by omega⟩;have P:=t.lp;have p:=P;unfold Av at p;rw[Buc]at p;rw[Ak3 A (by omega) tm h (I j) p,t5];have hb:=t.q.hb;have U:=hb _ _ P;simp only[Adc,W6 P,Wv,dr];obtain⟨s,qr,r1,r2,O⟩:=t.row;have c1:Au (fun i=>i=l0) h (h.put l0 (Av TT 144 19 0 tm .busy none (l0-1))):=(Au.refl (S:=fun i=>i=l0) h).Ao (.inl rfl) U _;have V:(h.put l0 (Av TT 144 19 0 tm .busy none (l0-1))).get l0=some (Av TT 144 19 0 tm .busy none (l0-1)):=Ae _ _ _;have kp:∀i o,h.get i=some o->i≠l0->(h.put l0 (Av TT 144 19 0 tm .busy none (l0-1))).get i=some o:=fun i o g f=>by rw[Af _ (cT f)];exact g
 have gd:=kp _ _ t.dd (by omega);have W:=kp _ _ r1 (by omega);have gz:=kp _ _ t.zq (by omega);have rr:=r2.frame (h':=h.put l0 (Av TT 144 19 0 tm .busy none (l0-1))) fun y=>Af _ (by have:=O y;omega)
 have Y:(h.put l0 (Av TT 144 19 0 tm .busy none (l0-1))).next=h.next:=rfl
 have u:Qt F h0 (h.put l0 (Av TT 144 19 0 tm .busy none (l0-1))):=t.q.Ajy c1 fun i f=>by omega
 clear kp;generalize h.put l0 (Av TT 144 19 0 tm .busy none (l0-1))=D at c1 V gd W gz rr Y u⊢;rw[Ah W rfl (v:=s) rfl];refine L0 (z:=[.int .i64 0]) (v:=I j) rr u.hb rfl rfl rfl (by omega) (by omega) fun h2 E ae c2=>?_
 have G:=c2.hb u.hb;have J:∀i o,D.get i=some o->i<=l0->h2.get i=some o:=fun i o g f=>c2.at u.hb g fun y=>by have:=O y.1;omega
 have M:=J _ _ W (by omega);have l5:=G _ _ M;have Z:=G _ _ (J _ _ V (aD _));refine Ok.st1 M rfl rfl (by show 0<1;decide) ?_;rw[Np (by rw[Af _];exact J _ _ V (aD _))];have c3:Au (fun i=>i=l0\/i=h0.next) h2 ((h2.put h0.next (.cells ([s].set 0 (.slice (D.next+1) 0 (L.length+1) (L.length+1) true)) 28)).put l0 (Av TT 144 19 0 tm .ready none (l0-1))):=((Au.refl h2).Ao (.inl (.inr rfl)) l5 _).Ao (.inl (.inl rfl)) Z _;have same:∀i,i≠l0->i≠h0.next->((h2.put h0.next (.cells ([s].set 0 (.slice (D.next+1) 0 (L.length+1) (L.length+1) true)) 28)).put l0 (Av TT 144 19 0 tm .ready none (l0-1))).get i=h2.get i:=fun i a b=>by rw[Af _ (cT a),Af _ (cT b)]
 refine .ret ⟨rfl,?_,?_,?_,?_,?_,?_⟩
 ·refine((c1.mono fun i f y=>?_).trans (c2.mono fun i f y=>?_)).trans (c3.mono fun i f y=>?_)
  ·omega
  ·have:=O f.1;omega
  ·omega
 ·refine(u.Ajy c2 fun i f=>?_).Ajy c3 fun i f=>by omega
  have:=O f.1;omega
 ·exact Ae _ _ _
 ·rw[same _ (by omega) (by omega)];exact J _ _ gd (by omega)
 ·rw[same _ (by omega) (by omega)];exact J _ _ gz (by omega)
 ·refine⟨.slice (D.next+1) 0 (L.length+1) (L.length+1) true,D.next+1,?_,?_,fun _=>by omega⟩
  ·rw[Af _];exact Ae _ _ _
  ·rw[aG,bm]
   exact Cc.frame E fun _=>same _ (by omega) (by omega)
include hK
theorem Bgz(C:Cu h0 B X F)(hd:8<=d)(z:Int):Ok (Ag TT disp K d false 144 [.ptr B.c 0,I z] h0) fun v h'=>Qt F h0 h'/\∃qr,Cc h' v qr 3 1 (blN z X.es X.es.length).length ((blN z X.es X.es.length).map nI)/\(0<(blN z X.es X.es.length).length->h0.next<=qr):=by
 obtain⟨e,rfl⟩:∃k,d=k+3+1:=⟨d-4,by omega⟩;rw[Aos A (by omega)];simp only[Aj3,Aa];have hb:=C.hb;obtain⟨f,e_,M,E,t⟩:=nW h0 (.cells [.Al] 28);rw[e_];have u:=M.hb hb;have C1:=(C.Xa M).C;rw[C1.ldB];simp only[Ab2,Aa,I];have G:Ext f ((f.new (.cells [.ptr B.b 0] 49)).new (.cells [.int .i64 z] 3)):=(Au.new _ _).C8 _;have n2:((f.new (.cells [.ptr B.b 0] 49)).new (.cells [.int .i64 z] 3)).next=h0.next+3:=by rw[Ab.Di,Ab.Di,t]
 have W:((f.new (.cells [.ptr B.b 0] 49)).new (.cells [.int .i64 z] 3)).get (h0.next+1)=some (.cells [.ptr B.b 0] 49):=by rw[<-t,Ay _ (aR _)];exact Ad _ _
 have Y:((f.new (.cells [.ptr B.b 0] 49)).new (.cells [.int .i64 z] 3)).get (h0.next+2)=some (.cells [I z] 3):=by rw[show h0.next+2=(f.new (.cells [.ptr B.b 0] 49)).next by rw[Ab.Di,t]];exact Ad _ _
 rw[show(f.new (.cells [.ptr B.b 0] 49)).next=h0.next+2 by rw[Ab.Di,t],t];generalize (f.new (.cells [.ptr B.b 0] 49)).new (.cells [.int .i64 z] 3)=h2 at G n2 W Y⊢;have o:=G.hb u;have O:Ext h0 h2:=M.trans G;generalize D:(((((((((Tr.nil.put 0 (some (EV.ptr B.c 0))).put 1 (some (EV.int .i64 z))).put 4 (some EV.Al)).put 5 (some (EV.ptr h0.next 0))).put 7 (some (EV.ptr B.c 0))).put 8 (some (EV.ptr B.c 0))).put 9 (some (EV.ptr B.c 2))).put 10 (some (EV.ptr B.b 0))).put 11 (some (EV.int .i64 z))).put 12 (some (EV.func 80 [] [EV.ptr (h0.next+1) 0,EV.ptr (h0.next+2) 0]))=tm;have t5:tmp tm 5=.ptr h0.next 0:=by rw[<-D];simp only[G3,reduceIte,Nat.reduceEqDiff]
 clear D;have nl:h2.next+1=h0.next+4:=by omega
 have hlen:=C.map.len;have:=C.sm.b0;have:=C.sm.b1;have cl:Bok disp K e (h2.next+1) (h0.next+2) B.b B.ml B.ll X.S.g X.es z (h2.next+2) (fun j h=>Bcq F h0 h (h2.next+1) tm (h0.next+2) z (blN z X.es j)/\j<=X.es.length) (fun h=>False):=by
  refine⟨fun j h h' w c=>⟨w.1.chg c (fun i a=>by have:=a.1;have:=a.2;omega) (by omega) (by omega),w.2⟩,fun h h' w c=>w.elim,fun j hj h a w nx=>?_,fun j hj h a w=>⟨by rw[Bue hj a];exact w.1,hj⟩,fun j h w=>w.1.q.hb,fun h w=>w.elim,fun j h w=>(C.rd w.1.q).C.map,fun j h w=>w.1.zq⟩;have bl:=Blp z X.es j;obtain⟨v,h',e1,rfl,c,w'⟩:=A8m (K:=K) A t5 (l0:=h2.next+1) (zq:=h0.next+2) (by omega) (by omega) (by omega) (e:=e) (by omega) (j:=j) (by omega) (by omega) w.1;refine⟨true,h',e1,c.mono fun i a y=>a ⟨by have:=y.1;omega,by have:=y.2;omega⟩,?_⟩;rw[aQ rfl,Bsb hj a];exact⟨w',hj⟩
 have P:Ext h2 (Ca TT 144 19 0 tm h2):=Hg;have I0:Bcq F h0 (Ca TT 144 19 0 tm h2) (h2.next+1) tm (h0.next+2) z (blN z X.es 0):=⟨Qt.ext (O.trans P) hb,Hp,Je,P.at o Y,.Al,0,P.at o (G.at u E),Cc.nil _ _ _ _,fun y=>absurd y (bS 0)⟩;refine Ok.Arp (K:=K) A (by omega) cl (by omega) C.sm W o ⟨I0,cU _⟩ (fun p w=>⟨w.1.lp,?_⟩) fun p w=>w.elim
 obtain⟨w,_⟩:=w;obtain⟨s,qr,r1,r2,U⟩:=w.row;have V:=w.q.hb;have l3:=V _ _ w.lp;have J:Qt F h0 (p.put (h2.next+1) (Av TT 144 19 0 tm .exhausted none h2.next)):=w.q.Ajy ((Au.refl (S:=fun i=>i=h2.next+1) p).Ao (.inl rfl) l3 _) fun i a=>by omega
 have E:(p.put (h2.next+1) (Av TT 144 19 0 tm .exhausted none h2.next)).get h0.next=some (.cells [s] 28):=by rw[Af _];exact r1
 have gd:(p.put (h2.next+1) (Av TT 144 19 0 tm .exhausted none h2.next)).get h2.next=some (.deferred true):=by rw[Af _];exact w.dd
 have rr:=r2.frame (h':=p.put (h2.next+1) (Av TT 144 19 0 tm .exhausted none h2.next)) fun y=>Af _ (by have:=U y;omega)
 generalize p.put (h2.next+1) (Av TT 144 19 0 tm .exhausted none h2.next)=h4 at J E gd rr⊢;simp only[Uq,dr];rw[Ah E rfl (v:=s) rfl];refine Ok.unwind (cV.2 ⟨by simp,dF⟩) (fun d hd=>by rw[aP]at hd;subst hd;exact gd) J.hb fun h6 Z _=>?_
 exact .ret ⟨J.Ajy Z fun i a=>by rw[aP]at a;omega,qr,rr.frame fun y=>Z.get _ (J.hb _ _ (rr.block y)) fun y'=>by rw[aP]at y';have:=U y;omega,fun y=>by have:=U y;omega⟩
end
end
section
def Co.live(X:Co)(z:Int):Int:=Aqk X.S.g X.es z
def Co.A7b(X:Co)(z:Int):Bool:=X.closed z&&(decide (2*X.live z<=X.S.g.S)&&Ajj X.S z X.es)
def Co.Qb(X:Co):Nat->Int
 | 0=>-1
 | i+1=>if X.A7b i=true/\(X.Qb i = -1\/X.live i<X.live (X.Qb i))then i else X.Qb i
theorem Co.A7o(X:Co):∀n,-1<=X.Qb n/\X.Qb n<n
 | 0=>by unfold Co.Qb;omega
 | n+1=>by
  have:=X.A7o n;unfold Co.Qb;split<;>omega
theorem Bf3(a:X.es.length<=256)(z:Int):0<=X.live z/\X.live z<=256:=by
 unfold Co.live Aqk;split
 ·have:=Aux z X.es;omega
 ·omega
theorem Cu.Bmi(C:Cu h B X F):X.es.length<=256:=by
 have:=C.map.len;have:=C.sm.b1;have:=C.sm.b0;omega
theorem Bh3(A:Bw disp)(hK:10000<K)(hn:X.S.g.D*X.S.g.Z=n)(hd:8<=d):∀(f i:Nat) (h:Ab),n-i<f->i<=n->Cu h B X F ->
 Ok (H6 (Ag TT disp K d false) (Ag TT disp K d true) K f (.ptr B.c 0) (I (X.Qb i)) (I n) (I i) h) fun v h'=>v=I (X.Qb n)/\Qt F h h':=by
 intro f;induction f with
 | zero=>intro i h Y;omega
 | succ f ih=>
  intro i h Y hi C;have bd:=C.sm.Agt;have U:=C.Bmi;rw[H6];simp only[I,Ac];by_cases ab:i<n
  ·have:decide ((i:Int)<(n:Int))=true:=by simp;omega
   simp only[this,Aa,Adl];rw[C.ldB];have ml:=Ail (K:=K) C.map i;simp only[I]at ml;rw[ml,Ap];refine(Arl A hK C hd (z:=i) ⟨by omega,by omega⟩).Am ?_;rintro _ h2 ⟨rfl,O⟩;have G:=(C.rd O).C;have nx:∀h' b,Qt F h h'->b=X.Qb (i+1)->Ok (Ot (Ag TT disp K d false) (Ag TT disp K d true) K (H6 (Ag TT disp K d false) (Ag TT disp K d true) K f) (.ptr B.c 0) (.int .i64 b) (.int .i64 (n:Int)) (.int .i64 (i:Int)) h') fun v h'=>v=I (X.Qb n)/\Qt F h h':=by
    intro h' b q hb;subst hb;simp only[Ot,Ac];rw[Cg,show((i:Nat):Int)+1=((i+1:Nat):Int) by omega];refine(ih (i+1) h' (by omega) (by omega) (C.rd q).C).mono ?_;rintro v t ⟨a,u⟩;exact⟨a,q.trans u⟩
   have no:X.A7b i=false->X.Qb i=X.Qb (i+1):=fun E=>by
    rw[show X.Qb (i+1)=if X.A7b i=true/\(X.Qb i = -1\/X.live i<X.live (X.Qb i))then(i:Int)else X.Qb i from rfl,aM (by rw[E];simp)]
   have lb:=Bf3 U i;have vb:=X.A7o i;have ad:=Bf3 U (X.Qb i);have ae:D6 (.tuple []) false=false/\D6 (.tuple []) true=false:=⟨rfl,rfl⟩;unfold Co.A7b at no;show Ok (Aq5 (.bool (X.closed i)) _) _;cases E:X.closed i with
   | false=>
    simp only[Aa,Ac,Oi,Kv];exact nx _ _ O (no (by rw[E,ak]))
   | true=>
   simp only[Aa,Ac];rw[G.ldM];refine(Mx (K:=K) G.M G.hb).Am ?_;rintro _ t ⟨rfl,x3⟩;have u:=O.trans (Qt.ext x3 G.hb);have C3:=(C.rd u).C;unfold gV;rw[Ati (v:=I X.S.g.S) rfl];simp only[I,Ac];have hL:Aqk X.S.g X.es i=X.live i:=rfl;rw[hL,Cg];by_cases h2:X.S.g.S<2*X.live i
   ·simp only[h2,aB,Aa,Ac,Oi,Kv]
    exact nx _ _ u (no (by rw[E,aK (by omega)];rfl))
   simp only[h2,aA,Aa,Ac,Oi];have V:=Bl9 (K:=K) A hK C3 (d:=d) hd i;simp only[I]at V;refine V.Am ?_;rintro _ h4 ⟨rfl,p⟩;have p:=u.trans p;have W:=(C.rd p).C;cases hw:Ajj X.S i X.es with
   | false=>
    simp only[Aa,Ac,Kv];exact nx _ _ p (no (by rw[hw,eD,eD]))
   | true=>
   simp only[Aa,Ac,Kv,Aer];have o:X.A7b i=true:=by unfold Co.A7b;rw[E,hw,aJ (by omega)];rfl
   by_cases J:X.Qb i = -1
   ·simp only[J,aB,Aa,Ac,Ux]
    exact nx _ _ p (by rw[show X.Qb (i+1)=if X.A7b i=true/\(X.Qb i = -1\/X.live i<X.live (X.Qb i))then(i:Int)else X.Qb i from rfl,aQ ⟨o,.inl J⟩])
   simp only[J,aA,Aa,Ac];rw[W.ldB];have ml:=Ail (K:=K) W.map (X.Qb i);simp only[I]at ml;rw[ml,Ap];simp only[Ac,Ux];have P:Aqk X.S.g X.es (X.Qb i)=X.live (X.Qb i):=rfl;rw[P];by_cases t:X.live i<X.live (X.Qb i)
   ·simp only[t,aB,Aa,Ac]
    exact nx _ _ p (by rw[show X.Qb (i+1)=if X.A7b i=true/\(X.Qb i = -1\/X.live i<X.live (X.Qb i))then(i:Int)else X.Qb i from rfl,aQ ⟨o,.inr t⟩])
   ·simp only[t,aA,Aa,Ac]
    exact nx _ _ p (by rw[show X.Qb (i+1)=if X.A7b i=true/\(X.Qb i = -1\/X.live i<X.live (X.Qb i))then(i:Int)else X.Qb i from rfl,aM fun y=>y.2.elim J t])
  ·have:decide ((i:Int)<(n:Int))=false:=by simp;omega
   have:i=n:=by omega
   subst this;simp only[Int.lt_irrefl,aA,Aa,Ad6];exact .ret ⟨rfl,Qt.refl C.hb⟩
theorem Bh6(A:Bw disp)(hK:10000<K)(C:Cu h B X F)(hd:9<=d):Ok (Ag TT disp K d false 28 [.ptr B.c 0] h) fun v h'=>v=I (X.Qb (X.S.g.D*X.S.g.Z).toNat)/\Qt F h h':=by
 obtain⟨e,rfl⟩:∃k,d=k+1:=⟨d-1,by omega⟩;rw[Aqh A (by omega)];simp only[Alh,Aa];rw[C.ldM];refine Ao2 A C fun h2 f=>?_
 have bd:=C.sm.Agt;obtain⟨n,o⟩:=aZ (show 0<=X.S.g.D*X.S.g.Z by omega);rw[o,bG];refine(Bh3 A hK o (d:=e) (by omega) K 0 h2 (by omega) (by omega) (C.Xa f).C).mono ?_;rintro v q ⟨a,p⟩;exact⟨a,(Qt.ext f C.hb).trans p⟩
end
structure Bpf(disp:Nat->Option FT)(K e l0 dq gq:Nat)(g:Gm)(d:Int)(Inv:Nat->Ab->Prop)(Stop:Ab->Prop):Prop where
 Dt:∀j:Nat,j<g.Z->∀h,Inv j h->∃more h',Ag TT disp K e true l0 [I (d*g.Z+j)] h=some (.bool more,h')/\(if more=true then Inv (j+1) h' else Stop h')
 dom:∀j h,Inv j h->h.get dq=some (.cells [I d] 3)
 geo:∀j h,Inv j h->h.get gq=some (.cells (gL g) 23)
theorem Bmk {dq:Nat}{d:Int}{Inv:Nat->Ab->Prop}(c:Bpf disp K e l0 dq gq g d Inv Stop)(s:Sm g)(d0:0<=d)(d1:d<g.D)(y:g.Z=n):∀(f j:Nat) (h:Ab),n-j<f->j<=n->Inv j h ->
 Ok (Nj (Ag TT disp K e false) (Ag TT disp K e true) K f (.U1 l0) (.ptr dq 0) (.ptr gq 0) (I n) (I j) h) fun v h'=>v=.tuple []/\(Inv n h'\/Stop h'):=by
 intro f;induction f with
 | zero=>intro j h p;omega
 | succ f q=>
  intro j h p hj o;have:=s.d1;have:=s.z1;have:=s.z0;obtain⟨E,G⟩:=N3 (a:=d) (b:=g.Z) (A:=8) (B:=64) (by omega) (by omega) (by omega) (by omega);rw[Nj];simp only[I,Ac];by_cases t:j<n
  ·have:decide ((j:Int)<(n:Int))=true:=by simp;omega
   simp only[this,Aa,Ai6];rw[Ah (c.dom _ _ o) rfl (v:=I d) rfl,Ah (c.geo _ _ o) rfl (v:=I g.Z) rfl];simp only[I,Ac];rw[Cg (n:=d*g.Z) (by omega) (by omega),Cg];obtain⟨more,h2,e2,i2⟩:=c.Dt j (by omega) h o;have u:Rf (Ag TT disp K e false) (Ag TT disp K e true) (.U1 l0) [.int .i64 (d*g.Z+(j:Int))] h=some (.bool more,h2):=e2;rw[u,Ap];cases more with
   | true=>
    rw[aQ rfl]at i2;simp only[Aa,Aie,Ac];rw[Cg,show((j:Nat):Int)+1=((j+1:Nat):Int) by omega];exact q (j+1) h2 (by omega) (by omega) i2
   | false=>
    rw[aM (by simp)]at i2;simp only[Aa];exact .ret ⟨rfl,.inr i2⟩
  ·have:decide ((j:Int)<(n:Int))=false:=by simp;omega
   have:j=n:=by omega
   subst this;simp only[Int.lt_irrefl,aA,Aa];exact .ret ⟨rfl,.inl o⟩
theorem Bs7(H:Bw disp)(hK:1000<K){dq:Nat}{d:Int}{Inv:Nat->Ab->Prop}(c:Bpf disp K e l0 dq gq g d Inv Stop)(he:1<=e)(s:Sm g)(f:Inv 0 h):
 Ok (Ag TT disp K (e+1) false 82 [.U1 l0,.ptr dq 0,.ptr gq 0] h) fun v h'=>v=.tuple []/\(if 0<=d/\d<g.D then Inv g.Z.toNat h'\/Stop h' else Inv 0 h'):=by
 have:=s.d1;have:=s.z1;have:=s.z0;have:=s.d0;rw[At5 H (by omega)];simp only[Aq3,dr];rw[Ah (c.dom _ _ f) rfl (v:=I d) rfl];simp only[Aa];rw[Ah (c.geo _ _ f) rfl (v:=I g.D) rfl];simp only[I,Ac];rw[Cg];have w:=Xi (K:=K) d 0 (g.D-1) h;simp only[I]at w;rw[w,Ap];have hw:wi d 0 (g.D-1)=decide (0<=d/\d<g.D):=by
  unfold wi;rw[<-Bool.decide_and];exact eS.2 (by omega)
 rw[hw];by_cases hd:0<=d/\d<g.D
 ·rw[aJ hd]
  simp only[Aa,Aic];rw[Ah (c.geo _ _ f) rfl (v:=I g.Z) rfl];obtain⟨n,o⟩:=aZ (show 0<=g.Z by omega);rw[o];refine(Bmk (K:=K) c s hd.1 hd.2 o K 0 h (by omega) (by omega) f).mono ?_;rintro v h' ⟨a,y⟩;exact⟨a,by rw[aQ hd,bG];exact y⟩
 ·rw[aK hd]
  simp only[Aa];exact .ret ⟨rfl,by rw[aM hd];exact f⟩
theorem Ok.Bq8(H:Bw disp)(hK:1000<K){dq:Nat}{d:Int}{Inv:Nat->Ab->Prop}{fn:Nat}{k:Ab->List Nat->R}{ret:Ab->List Nat->R}
 (c:Bpf disp K e (h.next+1) dq gq g d Inv Stop) (he:1<=e) (s:Sm g) (f:Inv 0 (Ca TT fn n i tm h))
 (a:∀h',(if 0<=d/\d<g.D then Inv g.Z.toNat h' else Inv 0 h')->h'.get (h.next+1)=some (Av TT fn n i tm .ready none h.next)/\Ok (k (h'.put (h.next+1) (Av TT fn n i tm .exhausted none h.next)) (h.next::ds)) Q)
 (o:∀h',Stop h'->h'.get (h.next+1)=some (Av TT fn n i tm .done (some .ret) h.next)/\Ok (ret (h'.put (h.next+1) (Av TT fn n i tm .exhausted (some .ret) h.next)) (h.next::ds)) Q) :
 Ok (Uv (Ag TT disp K (e+1) false) TT fn n i (.func 82 [] [.ptr dq 0,.ptr gq 0]) tm h ds k ex ret) Q:=by
 refine Ok.range ((Bs7 (K:=K) H hK (h:=Ca TT fn n i tm h) c he s f).mono ?_);rintro _ h' ⟨rfl,y⟩;by_cases hd:0<=d/\d<g.D
 ·rw[aQ hd]at y
  rcases y with y|y
  ·exact .inl (a h' (by rw[aQ hd];exact y))
  ·exact .inr (o h' y)
 ·rw[aM hd]at y
  exact .inl (a h' (by rw[aM hd];exact y))
def Co.few(X:Co)(d:Int):Nat->Int
 | 0=>-1
 | j+1=>if X.closed (d*X.S.g.Z+j)=true/\(X.few d j = -1\/X.live (d*X.S.g.Z+j)<X.live (X.few d j))then d*X.S.g.Z+j else X.few d j
def Co.Ajx(X:Co)(d:Int):Int:=if 0<=d/\d<X.S.g.D then X.few d X.S.g.Z.toNat else -1
structure Bie(F:Nat->Prop)(h0 h:Ab)(l0:Nat)(tm:Bb)(B:Cb)(g:Gm)(d:Int)(best:Int):Prop where
 q:Qt F h0 h
 lp:h.get l0=some (Av TT 27 39 0 tm .ready none (l0-1))
 dd:h.get (l0-1)=some (.deferred true)
 c2:h.get h0.next=some (.cells [.ptr B.c 0] 26)
 c5:h.get (h0.next+1)=some (.cells [I best] 3)
 gq:h.get (l0-3)=some (.cells (gL g) 23)
 dq:h.get (l0-2)=some (.cells [I d] 3)
theorem Buq:(Ek TT 27 0).2.1 = [14]:=by kernel_rfl
theorem Cu.lift(C:Cu h B X F):Cu h.lift B X F:=
 ⟨C.M.same (Ag9.lift _),by rw[Br];exact C.core,by rw[Br];exact C.ar,C.map.frame (Br _ _) (Br _ _) (Br _ _),C.wf,C.out,Da C.hb⟩
theorem Qt.big{a h2:Ab}(q:Qt F h.lift a)(sm:Ag9 a h2)(c:Au (fun i=>¬F i) h h2):Qt F h h2:=
 ⟨⟨_,⟨c,fun i f=>by rw[sm.get,q.same f,Br]⟩,fun _ y=>y⟩,sm.hb q.hb⟩
section
variable (A:Bw disp)(hK:10000<K)(C:Cu h0 B X F)
include A hK C
theorem Bit(t2:tmp tm 2=.ptr h0.next 0)(t5:tmp tm 5=.ptr (h0.next+1) 0)(l:h0.next+4<l0)(he:10<=e){d z best best':Int}(hz:Qu z)(D:best'=if X.closed z=true/\(best = -1\/X.live z<X.live best)then z else best)(J:Bie F h0 h l0 tm B X.S.g d best):
 Ok (Ag TT disp K e true l0 [I z] h) fun v h'=>v=.bool true/\Bie F h0 h' l0 tm B X.S.g d best':=by
 obtain⟨e,rfl⟩:∃k,e=k+1:=⟨e-1,by omega⟩;have hg:=J.lp;have P:=hg;unfold Av at P;rw[Buq]at P;rw[Ak0 A (by omega) tm h (I z) P,t2,t5];have hb:=J.q.hb;have af:=hb _ _ hg;simp only[Adb,W6 hg,Wu,dr];have kp:∀i o,h.get i=some o->i≠l0->(h.put l0 (Av TT 27 39 0 tm .busy none (l0-1))).get i=some o:=fun i o g U=>by rw[Af _ (cT U)];exact g
 have V:(h.put l0 (Av TT 27 39 0 tm .busy none (l0-1))).get l0=some (Av TT 27 39 0 tm .busy none (l0-1)):=Ae _ _ _;have gd:=kp _ _ J.dd (by omega);have M:=kp _ _ J.c2 (by omega);have O:=kp _ _ J.c5 (by omega);have gg:=kp _ _ J.gq (by omega);have gq:=kp _ _ J.dq (by omega);have W:Qt F h0 (h.put l0 (Av TT 27 39 0 tm .busy none (l0-1))):=J.q.Ajy ((Au.refl (S:=fun i=>i=l0) h).Ao (.inl rfl) af _) fun i U=>by omega
 clear kp;generalize h.put l0 (Av TT 27 39 0 tm .busy none (l0-1))=h1 at V gd M O gg gq W⊢;have C1:=(C.rd W).C;have l2:=W.hb _ _ M;have l5:=W.hb _ _ O;have lc:=C1.hb _ _ C1.core;rw[Bnz,Gy l2,Ah M rfl (v:=.ptr B.c 0) rfl];simp only[Ar];refine Ok.bC (S:=fun i=>¬F i) (Arl A hK C1.lift (d:=e) (by omega) hz) (fun _ _ p=>p.2.chg) ?_;rintro _ ax h2 s' ⟨rfl,ah⟩ sm c2 t;have Y:Qt F h1 h2:=ah.big sm c2;have E:=W.trans Y;have C2:=(C.rd E).C;have f:∀{i o},h1.get i=some o->h2.get i=some o:=fun g=>Y.at C1.hb g
 have ay:D6 (.tuple []) false=false/\D6 (.tuple []) true=false:=⟨rfl,rfl⟩;have fin:∀(bs:Nat) (s:DX) (b:Bool),b=decide (best'=z/\(X.closed z=true/\(best = -1\/X.live z<X.live best)))->(b=false->best'=best)->Ok (Eh (Ag TT disp K e false) (Ag TT disp K e true) K l0 bs s (.ptr (h0.next+1) 0) (I z) (.bool true) (.bool b) h2) fun v h'=>v=.bool true/\Bie F h0 h' l0 tm B X.S.g d best':=fun bs s b e1 e2=>by
  have G:=Y.hb _ _ (f V);have aj:=Y.hb _ _ (f O);cases b with
  | true=>
   have al:=(cO e1.symm).1;simp only[Eh,Aa,Ac];refine Ok.st1 (f O) rfl rfl (by show 0<1;decide) ?_;rw[Np (by rw[Af _];exact f V)];have kk:∀i,i≠l0->i≠h0.next+1->((h2.put (h0.next+1) (.cells ([I best].set 0 (I z)) 3)).put l0 (Av TT 27 39 0 tm .ready none (l0-1))).get i=h2.get i:=fun i a b=>by rw[Af _ (cT a),Af _ (cT b)]
   refine .ret ⟨rfl,E.Ajy (((Au.refl (S:=fun i=>h0.next<=i) h2).Ao (.inl (by omega)) aj _).Ao (.inl (by omega)) G _) (fun i U=>U),Ae _ _ _,?_,?_,?_,?_,?_⟩
   ·rw[kk _ (by omega) (by omega)];exact f gd
   ·rw[kk _ (by omega) (by omega)];exact f M
   ·rw[Af _,al];exact Ae _ _ _
   ·rw[kk _ (by omega) (by omega)];exact f gg
   ·rw[kk _ (by omega) (by omega)];exact f gq
  | false=>
   rw[e2 rfl];simp only[Eh,Aa,Ac];rw[Np (f V)];exact .ret ⟨rfl,E.Ajy ((Au.refl (S:=fun i=>i=l0) h2).Ao (.inl rfl) G _) (fun i U=>by omega),Ae _ _ _,by rw[Af _];exact f gd,by rw[Af _];exact f M,by rw[Af _];exact f O,by rw[Af _];exact f gg,by rw[Af _];exact f gq⟩
 cases Z:X.closed z with
 | false=>
  have ao:best'=best:=by rw[D,aM (by rw[Z];simp)]
  have G:=Y.hb _ _ (f V);rw[ao];simp only[Aa,Ac,Io,Iu,Eh];rw[Np (f V)];exact .ret ⟨rfl,E.Ajy ((Au.refl (S:=fun i=>i=l0) h2).Ao (.inl rfl) G _) (fun i U=>by omega),Ae _ _ _,by rw[Af _];exact f gd,by rw[Af _];exact f M,by rw[Af _];exact f O,by rw[Af _];exact f gg,by rw[Af _];exact f gq⟩
 | true=>
 simp only[Aa,Ac];rw[Ce l5 (by rcases t with rfl|⟨w,rfl,_⟩<;>kernel_rfl),Ah (f O) rfl (v:=I best) rfl];simp only[I,Ac];by_cases u:best = -1
 ·have:=fun bs s=>fin bs s true (by rw[eq_comm,dX];exact⟨by rw[D,aQ ⟨Z,.inl u⟩],Z,.inl u⟩) (fun y=>by cases y)
  simp only[u,aB,Aa,Ac,Io,Iu];simp only[Eh,Aa,Ac,I]at this;simp only[Eh,Aa,Ac];exact this 0 ⟨0,[],[],[],[]⟩
 simp only[u,aA,Aa,Ac,Io];rw[Ce l2 (by rcases t with rfl|⟨w,rfl,_⟩<;>kernel_rfl),Ah (f M) rfl (v:=.ptr B.c 0) rfl];simp only[Aa];rw[Ce lc (by rcases t with rfl|⟨w,rfl,_⟩<;>kernel_rfl),C2.ldB];have ml:=Ail (K:=K) C2.lift.map;simp only[I]at ml;rw[Aq8 (by rcases t with rfl|⟨w,rfl,_⟩<;>kernel_rfl) (by rcases t with rfl|⟨w,rfl,_⟩<;>kernel_rfl) (ml z)];rw[Ce l2 (by rcases t with rfl|⟨w,rfl,_⟩<;>kernel_rfl),Ah (f M) rfl (v:=.ptr B.c 0) rfl];simp only[Aa];rw[Ce lc (by rcases t with rfl|⟨w,rfl,_⟩<;>kernel_rfl),C2.ldB];rw[Ce l5 (by rcases t with rfl|⟨w,rfl,_⟩<;>kernel_rfl),Ah (f O) rfl (v:=I best) rfl];simp only[I];rw[Aq8 (by rcases t with rfl|⟨w,rfl,_⟩<;>kernel_rfl) (by rcases t with rfl|⟨w,rfl,_⟩<;>kernel_rfl) (ml best)];simp only[Ac,Iu,Aa];by_cases h3:X.live z<X.live best
 ·have:=fun bs s=>fin bs s true (by rw[eq_comm,dX];exact⟨by rw[D,aQ ⟨Z,.inr h3⟩],Z,.inr h3⟩) (fun y=>by cases y)
  have e3:decide (Aqk X.S.g X.es z<Aqk X.S.g X.es best)=true:=aJ h3;simp only[e3];exact this _ _
 ·have ne:¬(X.closed z=true/\(best = -1\/X.live z<X.live best)):=fun y=>y.2.elim u h3
  have:=fun bs s=>fin bs s false (by rw[eq_comm,cm];exact fun y=>ne y.2) (fun _=>by rw[D,aM ne])
  have e3:decide (Aqk X.S.g X.es z<Aqk X.S.g X.es best)=false:=aK h3;simp only[e3];exact this _ _
theorem Bdl(hd:11<=dp){d:Int}(hr : -9<=d/\d<=9):Ok (F27 (Ag TT disp K dp false) (Ag TT disp K dp true) K [.ptr B.c 0,I d] h0) fun v h'=>v=I (X.Ajx d)/\Qt F h0 h':=by
 obtain⟨e,rfl⟩:∃k,dp=k+1:=⟨dp-1,by omega⟩;rw[Atz A (by omega)];simp only[Akr,Aa];have hb:=C.hb;rw[show(h0.new (.cells [.ptr B.c 0] 26)).next=h0.next+1 from rfl];refine Ok.st1 (Ad _ _) rfl rfl (by show 0<1;decide) ?_;have J:Ext h0 (((h0.new (.cells [.ptr B.c 0] 26)).new (.cells [.int .i64 0] 3)).put (h0.next+1) (.cells ([EV.int .i64 0].set 0 (.int .i64 (-1))) 3)):=((Au.new _ _).C8 _).Ao (.inr (by omega)) (by show h0.next+1<h0.next+2;omega) _;have n1:(((h0.new (.cells [.ptr B.c 0] 26)).new (.cells [.int .i64 0] 3)).put (h0.next+1) (.cells ([EV.int .i64 0].set 0 (.int .i64 (-1))) 3)).next=h0.next+2:=rfl
 have O:(((h0.new (.cells [.ptr B.c 0] 26)).new (.cells [.int .i64 0] 3)).put (h0.next+1) (.cells ([EV.int .i64 0].set 0 (.int .i64 (-1))) 3)).get h0.next=some (.cells [.ptr B.c 0] 26):=by rw[Af _,Ay _ (aR _)];exact Ad _ _
 have y:(((h0.new (.cells [.ptr B.c 0] 26)).new (.cells [.int .i64 0] 3)).put (h0.next+1) (.cells ([EV.int .i64 0].set 0 (.int .i64 (-1))) 3)).get (h0.next+1)=some (.cells [I (-1)] 3):=Ae _ _ _;generalize ((h0.new (.cells [.ptr B.c 0] 26)).new (.cells [.int .i64 0] 3)).put (h0.next+1) (.cells ([EV.int .i64 0].set 0 (.int .i64 (-1))) 3)=h1 at J n1 O y⊢;have p:=J.hb hb;have P:=(C.Xa J).C;rw[Ah O rfl (v:=.ptr B.c 0) rfl];simp only[Aa];rw[P.ldM];refine(Mx (K:=K) P.M P.hb).Am ?_;rintro _ h2 ⟨rfl,U⟩;have V:=U.hb p;simp only[Amm,Aa,I,gV];have W:Ext h2 ((h2.new (.cells (gL X.S.g) 23)).new (.cells [.int .i64 d] 3)):=(Au.new _ _).C8 _;have n3:((h2.new (.cells (gL X.S.g) 23)).new (.cells [.int .i64 d] 3)).next=h2.next+2:=rfl
 have gg:((h2.new (.cells (gL X.S.g) 23)).new (.cells [.int .i64 d] 3)).get h2.next=some (.cells (gL X.S.g) 23):=by rw[Ay _ (aR _)];exact Ad _ _
 have gd:((h2.new (.cells (gL X.S.g) 23)).new (.cells [.int .i64 d] 3)).get (h2.next+1)=some (.cells [I d] 3):=Ad _ _;rw[show(h2.new (.cells (gL X.S.g) 23)).next=h2.next+1 from rfl];generalize (h2.new (.cells (gL X.S.g) 23)).new (.cells [.int .i64 d] 3)=f at W n3 gg gd⊢;have o:=W.hb V;have t:Ext h1 f:=U.trans W;generalize u:((((((((((((Tr.nil.put 0 (some (EV.ptr B.c 0))).put 1 (some (EV.int .i64 d))).put 2 (some (EV.ptr h0.next 0))).put 4 (some (EV.int .i64 0))).put 5 (some (EV.ptr (h0.next+1) 0))).put 7 (some (EV.ptr B.c 0))).put 8 (some (EV.ptr B.c 0))).put 9 (some (EV.ptr B.c 0))).put 10 (some (EV.ptr B.m 0))).put 11 (some (EV.agg (gL X.S.g)))).put 12 (some (EV.int .i64 d))).put 13 (some (EV.func 82 [] [EV.ptr (h2.next+1) 0,EV.ptr h2.next 0])))=tm;have t2:tmp tm 2=.ptr h0.next 0:=by rw[<-u];simp only[G3,reduceIte,Nat.reduceEqDiff]
 have t5:tmp tm 5=.ptr (h0.next+1) 0:=by rw[<-u];simp only[G3,reduceIte,Nat.reduceEqDiff]
 clear u;have ag:=U.next
 have:=C.sm.d1;have:=C.sm.z1;have:=C.sm.z0;have cl:Bpf disp K e (f.next+1) (h2.next+1) h2.next X.S.g d (fun j h=>Bie F h0 h (f.next+1) tm B X.S.g d (X.few d j)) (fun _=>False):=by
  refine⟨fun j hj h w=>?_,fun j h w=>by have:=w.dq;rw[show f.next+1-2=h2.next+1 by omega]at this;exact this,fun j h w=>by have:=w.gq;rw[show f.next+1-3=h2.next by omega]at this;exact this⟩;have hz:Qu (d*X.S.g.Z+j):=by
   obtain⟨m0,m1⟩:=N3 (a:=d+9) (b:=X.S.g.Z) (A:=18) (B:=64) (by omega) (by omega) (by omega) (by omega);rw[Int.add_mul]at m0 m1;exact⟨by omega,by omega⟩
  obtain⟨v,h',e1,rfl,w'⟩:=Bit (K:=K) A hK C t2 t5 (l0:=f.next+1) (by omega) (e:=e) (by omega) (d:=d) (best':=X.few d (j+1)) hz rfl w;exact⟨true,h',e1,by rw[aQ rfl];exact w'⟩
 have E:Ext f (Ca TT 27 39 0 tm f):=Hg;have I0:Bie F h0 (Ca TT 27 39 0 tm f) (f.next+1) tm B X.S.g d (X.few d 0):=⟨Qt.ext ((J.trans t).trans E) hb,Hp,Je,E.at o (t.at p O),E.at o (t.at p y),by rw[show f.next+1-3=h2.next by omega];exact E.at o gg,by rw[show f.next+1-2=h2.next+1 by omega];exact E.at o gd⟩;refine Ok.Bq8 (K:=K) A (by omega) cl (by omega) C.sm I0 (fun h4 w=>?_) fun h4 w=>w.elim
 have w:Bie F h0 h4 (f.next+1) tm B X.S.g d (X.Ajx d):=by
  unfold Co.Ajx;by_cases G:0<=d/\d<X.S.g.D
  ·rw[aQ G]at w⊢;exact w
  ·rw[aM G]at w⊢;exact w
 refine⟨w.lp,?_⟩;have Y:=w.q.hb;have l4:=Y _ _ w.lp;have q5:Qt F h0 (h4.put (f.next+1) (Av TT 27 39 0 tm .exhausted none f.next)):=w.q.Ajy ((Au.refl (S:=fun i=>i=f.next+1) h4).Ao (.inl rfl) l4 _) fun i hi=>by omega
 have y:(h4.put (f.next+1) (Av TT 27 39 0 tm .exhausted none f.next)).get (h0.next+1)=some (.cells [I (X.Ajx d)] 3):=by rw[Af _];exact w.c5
 have gd:(h4.put (f.next+1) (Av TT 27 39 0 tm .exhausted none f.next)).get f.next=some (.deferred true):=by rw[Af _];exact w.dd
 generalize h4.put (f.next+1) (Av TT 27 39 0 tm .exhausted none f.next)=h5 at q5 y gd⊢;simp only[Uy,dr];rw[Ah y rfl (v:=I (X.Ajx d)) rfl];refine Ok.unwind (cV.2 ⟨by simp,dF⟩) (fun d hd=>by rw[aP]at hd;subst hd;exact gd) q5.hb fun h6 ch _=>?_
 exact .ret ⟨rfl,q5.Ajy ch fun i hi=>by rw[aP]at hi;omega⟩
theorem Bgy(a:disp 27=some (Acz F27))(hd:12<=dp){d:Int}(p : -9<=d/\d<=9):Ok (Ag TT disp K dp false 27 [.ptr B.c 0,I d] h0) fun v h'=>v=I (X.Ajx d)/\Ext h0 h':=by
 obtain⟨e,rfl⟩:∃k,dp=k+1:=⟨dp-1,by omega⟩;obtain⟨v,h',e1,rfl,q⟩:=Bdl (K:=K) A hK C (dp:=e) (by omega) p;rw[Avg a,Bii e1 fun i f=>q.same f];have gt:∀i,(⟨h'.t,h'.next,h0.mw⟩:Ab).get i=h'.get i:=fun i=>by cases h';rfl
 exact .ret ⟨rfl,fun i f _=>by rw[gt];exact q.same f,q.next,fun w w1 _ _=>w1,fun _ j o e=>by rw[gt]at e;exact q.hb j o e⟩
end
end Go.Ev
