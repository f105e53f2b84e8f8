import Derived.Test.YtokpnommcenoaaaGreatCb
import Derived.Test.YtokpnommcenoaaaGreatEvFive
set_option linter.all false
namespace Go.Ev
open Go.Proofs
set_option maxRecDepth 100000
variable {K d e i j m n dp gq l0 zq:Nat}{x:Int}{Cr cur:Nat->Int}{h h' h0:Ab}{ih0:EV->EV->EV->Ab->R}{S:Mi}{F T:Nat->Prop}{k:EV->Ab->R}{Q:EV->Ab->Prop}{g:Gm}{es:List Me}{Stop:Ab->Prop}{tm:Ax}{L ds:List Nat}{ex:Nat->Ab->List Nat->R}{B:Cb}{X:Co}{disp:Nat->Option FT}
section
theorem Bqa:(Dt TT 20 0).2.1 = [8]:=by kernel_rfl
theorem Bpr {a b:EV}(hj:j<2)(k:EV->R):Aw0 2 1 false 1 (.agg [a,b]) (I j) k=k (if j=0 then a else b):=by
 rcases j with _|_|j<;>first|rfl|omega
theorem Bo8 {a:Nat->Int}{o:Nat->Int}(f:i<3)(k:EV->R):Aw0 3 2 true 2 (.agg [I (a 0),I (o 0),I (a 1),I (o 1),I (a 2),I (o 2)]) (I i) k=k (.agg [I (a i),I (o i)]):=by
 rcases i with _|_|_|i<;>first|rfl|omega
def Abt(x z:Int):Bool:=decide (¬x = -1)&&decide (x=z)
theorem Blr {z:Int}(h:¬x=z):Abt x z=false:=by unfold Abt;rw[aQ h,cn]
theorem Bi0 {z:Int}(h:¬x = -1)(e:x=z):Abt x z=true:=by unfold Abt;rw[aP h,aP e];rfl
def A7h(cur Cr:Nat->Int)(z:Int):Nat->Bool
 | 0=>false
 | i+1=>A7h cur Cr z i||(Abt (cur i) z||Abt (Cr i) z)
def Avg(cur Cr:Nat->Int)(z:Int):Bool:=A7h cur Cr z 3
theorem Ba6{z:Int}(a:i<=3)(h:A7h cur Cr z i=true):Avg cur Cr z=true:=by
 have st:∀i,A7h cur Cr z i=true->A7h cur Cr z (i+1)=true:=fun i h=>by
  show(A7h cur Cr z i||(Abt (cur i) z||Abt (Cr i) z))=true;rw[h];rfl
 unfold Avg;rcases i with _|_|_|_|i
 ·cases h
 ·exact st _ (st _ h)
 ·exact st _ h
 ·exact h
 ·omega
structure At5(h:Ab)(l0 d0:Nat)(tm:Ax)(b3 b4:Nat)(z:Int)(found:Bool):Prop where
 lp:h.get l0=some (As TT 20 12 0 tm (if found then .done else .ready) (if found then some .ret else none) d0)
 c3:h.get b3=some (.cells [I z] 3)
 c4:h.get b4=some (.cells [.bool found] 4)
 hb:HB h
section
variable (H:Ca disp){d0 b3 b4:Nat}{z:Int}(t3:tmp tm 3=.ptr b3 0)(t4:tmp tm 4=.ptr b4 0)
include H t3 t4
theorem Baj(he:1<=e)(G:At5 h l0 d0 tm b3 b4 z false):
 ∃h',Ag TT disp K (e+1) true l0 [I x] h=some (.bool (decide (¬x=z)),h')/\At5 h' l0 d0 tm b3 b4 z (decide (x=z))/\Ar (fun j=>j=l0\/j=b4) h h':=by
 have D:=G.lp;simp only[aU,aY]at D;have p:=D;have M:=G.c3;have J:=G.c4;have hb:=G.hb;unfold As at p;rw[Bqa]at p;rw[Amz H he tm h (I x) p,t3,t4];have E:=hb _ _ D;have U:=hb _ _ J;have q:l0≠b3:=Be D M (by simp[As]);have a:l0≠b4:=Be D J (by simp[As]);have n34:b3≠b4:=Be M J (by simp[I]);simp only[Ahh,Qo D,Ys,dr];have f:(h.put l0 (As TT 20 12 0 tm .busy none d0)).get b3=some (.cells [I z] 3):=by rw[Af _ q];exact M
 have t:(h.put l0 (As TT 20 12 0 tm .busy none d0)).get b4=some (.cells [.bool false] 4):=by rw[Af _ a];exact J
 have u:(h.put l0 (As TT 20 12 0 tm .busy none d0)).get l0=some (As TT 20 12 0 tm .busy none d0):=Ae _ _ _;have O:Ar (fun j=>j=l0\/j=b4) h (h.put l0 (As TT 20 12 0 tm .busy none d0)):=(Ar.refl h).Ak (.inl (.inl rfl)) E _;have y:HB (h.put l0 (As TT 20 12 0 tm .busy none d0)):=hb.put E _;have V:(h.put l0 (As TT 20 12 0 tm .busy none d0)).next=h.next:=rfl
 generalize h.put l0 (As TT 20 12 0 tm .busy none d0)=W at f t u O y V⊢;simp only[Cy f rfl,Aa,I,Ad];by_cases P:x=z
 ·simp only[P,aB,Aa,aD,aA]
  rw[Akl (o:=0) (n:=1) (v:=.bool true) (l':=[.bool true]) t rfl rfl rfl,Js (by rw[Af _ (cN a)];exact u)];exact⟨_,rfl,⟨Ae _ _ _,by rw[Af _ q,Af _ (cN n34)];exact f,by rw[Af _ a];exact Ae _ _ _,(y.put (by omega) _).put (by rw[Ab.Qf];omega) _⟩,(O.Ak (.inl (.inr rfl)) (by omega) _).Ak (.inl (.inl rfl)) (by rw[Ab.Qf];omega) _⟩
 ·simp only[P,aA,Aa,aG,aB]
  rw[Js u];exact⟨_,rfl,⟨Ae _ _ _,by rw[Af _ q];exact f,by rw[Af _ a];exact t,y.put (by omega) _⟩,O.Ak (.inl (.inl rfl)) (by omega) _⟩
def Azo(h:Ab)(l0 d0:Nat)(tm:Ax)(b3 b4:Nat)(z:Int)(f:Bool):EV->Ab->Prop:=fun _ h'=>At5 h' l0 d0 tm b3 b4 z f/\Ar (fun j=>j=l0\/j=b4) h h'
theorem Bdo(he:2<=e){v10 v11:EV}{y:Int}{f:Bool}(G:Abt x z=true->f=true)(J:Abt y z=true->f=true)
 (hk:Abt x z=false->Abt y z=false->∀h,At5 h l0 d0 tm b3 b4 z false->Ar (fun j=>j=l0\/j=b4) h0 h->Ok (Ku (Ag TT disp K e false) (Ag TT disp K e true) K ih0 (.Sy l0) v10 v11 h) (Azo h0 l0 d0 tm b3 b4 z f)) :
 ∀(m j:Nat) (h:Ab),2-j<m->j<=2->(1<=j->Abt x z=false)->(2<=j->Abt y z=false)->At5 h l0 d0 tm b3 b4 z false->Ar (fun j=>j=l0\/j=b4) h0 h ->
  Ok (Eo (Ag TT disp K e false) (Ag TT disp K e true) K ih0 m (.Sy l0) v10 v11 (.agg [I x,I y]) (I j) h) (Azo h0 l0 d0 tm b3 b4 z f):=by
 intro m;induction m with
 | zero=>intro j h hm;omega
 | succ m ih=>
  intro j h hm hj Y jy M D;rw[Eo];simp only[I,Ad];by_cases O:j<2
  ·have e3:decide ((j:Int)<2)=true:=by simp;omega
   simp only[e3,Aa,Adq];have Z:=fun k=>Bpr (a:=I x) (b:=I y) O k
   simp only[I]at Z;rw[Z];have go:∀v:Int,(Abt v z=true->f=true)->(Abt v z=false->(1<=j+1->Abt x z=false)/\(2<=j+1->Abt y z=false))->Ok (Kv Ake (bin TT .neq 3) (.int .i64 v) (.int .i64 (-1)) fun p=>Bb (Fj p true)
    (Ap (Rn (Ag TT disp K e false) (Ag TT disp K e true) (.Sy l0) [.int .i64 v] h) fun P h=>Afz P fun U=>Ik (Ag TT disp K e false) (Ag TT disp K e true) K ih0 (Eo (Ag TT disp K e false) (Ag TT disp K e true) K ih0 m) (.Sy l0) v10 v11 (.agg [.int .i64 x,.int .i64 y]) (.int .i64 (j:Int)) p U h)
    (Ik (Ag TT disp K e false) (Ag TT disp K e true) K ih0 (Eo (Ag TT disp K e false) (Ag TT disp K e true) K ih0 m) (.Sy l0) v10 v11 (.agg [.int .i64 x,.int .i64 y]) (.int .i64 (j:Int)) p (.tuple []) h)) (Azo h0 l0 d0 tm b3 b4 z f):=by
    intro v V u;have nx:Abt v z=false->∀h2,At5 h2 l0 d0 tm b3 b4 z false->Ar (fun j=>j=l0\/j=b4) h0 h2->Ok (T8 (Ag TT disp K e false) (Ag TT disp K e true) K ih0 (Eo (Ag TT disp K e false) (Ag TT disp K e true) K ih0 m) (.Sy l0) v10 v11 (.agg [.int .i64 x,.int .i64 y]) (.int .i64 (j:Int)) h2) (Azo h0 l0 d0 tm b3 b4 z f):=by
     intro o h2 q c2;simp only[T8,Ad];rw[Cn (by omega) (by omega),show((j:Nat):Int)+1=((j+1:Nat):Int) by omega];exact ih (j+1) h2 (by omega) (by omega) (u o).1 (u o).2 q c2
    simp only[Ad];by_cases E:v = -1
    ·simp only[E,aD,aA,Aa,Ad,Ik]
     exact nx (by unfold Abt;rw[aQ (fun y=>y E),aX]) h M D
    ·have W:=E
     simp only[E,aG,aB,Aa,Ad];obtain⟨e,rfl⟩:∃k,e=k+1:=⟨e-1,by omega⟩;obtain⟨h2,r1,q,c2⟩:=Baj (K:=K) H t3 t4 (e:=e) (by omega) (x:=v) M;have hc:Rn (Ag TT disp K (e+1) false) (Ag TT disp K (e+1) true) (.Sy l0) [.int .i64 v] h=some (.bool (decide (¬v=z)),h2):=r1;rw[hc,Au];by_cases t:v=z
     ·have hf:=V (Bi0 W t)
      simp only[t,aB]at q;simp only[t,aD,aA,Aa,Ik];rw[hf];exact .ret ⟨q,D.trans c2⟩
     ·have o:=Blr t
      simp only[t,aA]at q;simp only[t,aG,aB,Aa,Ik];exact nx o h2 q (D.trans c2)
   rcases j with _|_|j
   ·exact go x G fun o=>⟨fun _=>o,fun y=>by omega⟩
   ·exact go y J fun o=>⟨fun _=>Y (by omega),fun _=>o⟩
   ·omega
  ·have:j=2:=by omega
   subst this;simp only[show decide (((2:Nat):Int)<2)=false from rfl,Aa];exact hk (Y (by omega)) (jy (by omega)) h M D
theorem Be9(hK:5<K)(he:2<=e):∀(m i:Nat) (h:Ab),3-i<m->i<=3->A7h cur Cr z i=false->At5 h l0 d0 tm b3 b4 z false->Ar (fun j=>j=l0\/j=b4) h0 h ->
 Ok (Gs (Ag TT disp K e false) (Ag TT disp K e true) K m (.Sy l0) (.agg [I (cur 0),I (Cr 0),I (cur 1),I (Cr 1),I (cur 2),I (Cr 2)]) (I i) h) (Azo h0 l0 d0 tm b3 b4 z (Avg cur Cr z)):=by
 intro m;induction m with
 | zero=>intro i h hm;omega
 | succ m J=>
  intro i h hm W q f E;rw[Gs];unfold I;simp only[Ad];by_cases t:i<3
  ·have e3:decide ((i:Int)<3)=true:=by simp;omega
   simp only[e3,Aa,Adf];have G:=fun k=>Bo8 (a:=cur) (o:=Cr) t k
   simp only[I]at G;rw[G]
   try simp only[Aa]
   refine Ok.stW (Ac _ _) rfl rfl ?_;have p:Ext h ((h.new (.cells [EV.int .i64 0,.int .i64 0] 209)).put h.next (.cells [.int .i64 (cur i),.int .i64 (Cr i)] 209)):=(Ar.new h _:Ext _ _).Ak (.inr (aC _)) (aE _) _;have u:((h.new (.cells [EV.int .i64 0,.int .i64 0] 209)).put h.next (.cells [.int .i64 (cur i),.int .i64 (Cr i)] 209)).get h.next=some (.cells [.int .i64 (cur i),.int .i64 (Cr i)] 209):=Ae _ _ _
   generalize (h.new (.cells [EV.int .i64 0,.int .i64 0] 209)).put h.next (.cells [.int .i64 (cur i),.int .i64 (Cr i)] 209)=h2 at p u⊢
   have M:At5 h2 l0 d0 tm b3 b4 z false:=⟨p.at f.hb f.lp,p.at f.hb f.c3,p.at f.hb f.c4,p.hb f.hb⟩;rw[Aj u rfl (v:=I (cur i)) rfl,Aj u rfl (v:=I (Cr i)) rfl,Az (l:=[I (cur i),I (Cr i)]) rfl];refine Bdo (K:=K) H t3 t4 he (fun D=>Ba6 (i:=i+1) (by omega) (by show(_||(Abt (cur i) z||Abt (Cr i) z))=true;rw[D];simp)) (fun D=>Ba6 (i:=i+1) (by omega) (by show(_||(Abt (cur i) z||Abt (Cr i) z))=true;rw[D];simp)) ?_ K 0 h2 (by omega) (by omega) (fun y=>by omega) (fun y=>by omega) M (E.trans (Ext.to p));intro O P U V c3;simp only[Ku,Ad];rw[Cn (by omega) (by omega),show((i:Nat):Int)+1=((i+1:Nat):Int) by omega];exact J (i+1) U (by omega) (by omega) (by show(A7h cur Cr z i||(Abt (cur i) z||Abt (Cr i) z))=false;rw[q,O,P];rfl) V c3
  ·have:i=3:=by omega
   subst this;simp only[show decide (((3:Nat):Int)<3)=false from rfl,Aa];rw[show Avg cur Cr z=false from q];exact .ret ⟨f,E⟩
end
section
variable (H:Ca disp)
include H
theorem A4g(hd:5<=d)(hK:1000<K){ar:Nat}(hA:h.get ar=some (.cells (arC m cur Cr) 212))(hb:HB h)(z:Int):
 Ok (Ag TT disp K d false 20 [.ptr ar 0,I z] h) fun v h'=>v=.bool (Avg cur Cr z)/\Ext h h'/\HB h':=by
 obtain⟨e,rfl⟩:∃k,d=k+2:=⟨d-2,by omega⟩;rw[Art H (by omega)];simp only[Aoy,I,Aa,Ae7];have O:Ext h (((h.new (.cells [.int .i64 z] 3)).new (.cells [.bool false] 4)).new (.cells [.ptr ar 0] 45)):=((Ar.new _ _).Di _).Di _;have n1:(((h.new (.cells [.int .i64 z] 3)).new (.cells [.bool false] 4)).new (.cells [.ptr ar 0] 45)).next=h.next+3:=rfl
 have gb:(((h.new (.cells [.int .i64 z] 3)).new (.cells [.bool false] 4)).new (.cells [.ptr ar 0] 45)).get (h.next+2)=some (.cells [.ptr ar 0] 45):=Ac _ _;have g4:(((h.new (.cells [.int .i64 z] 3)).new (.cells [.bool false] 4)).new (.cells [.ptr ar 0] 45)).get (h.next+1)=some (.cells [.bool false] 4):=by
  rw[Ay _ (aE _)];exact Ac _ _
 have g3:(((h.new (.cells [.int .i64 z] 3)).new (.cells [.bool false] 4)).new (.cells [.ptr ar 0] 45)).get h.next=some (.cells [I z] 3):=by
  rw[Ay _ (show h.next<h.next+2 by omega),Ay _ (show h.next<h.next+1 by omega)];exact Ac _ _
 rw[show((h.new (.cells [.int .i64 z] 3)).new (.cells [.bool false] 4)).next=h.next+2 from rfl,show(h.new (.cells [.int .i64 z] 3)).next=h.next+1 from rfl];generalize ((h.new (.cells [.int .i64 z] 3)).new (.cells [.bool false] 4)).new (.cells [.ptr ar 0] 45)=f at O n1 gb g4 g3⊢;have q:=O.hb hb;generalize u:((((((Tr.nil.put 0 (some (EV.ptr ar 0))).put 1 (some (EV.int .i64 z))).put 3 (some (EV.ptr h.next 0))).put 4 (some (EV.ptr (h.next+1) 0))).put 6 (some (EV.ptr ar 0))).put 7 (some (EV.func 148 [] [EV.ptr (h.next+2) 0])))=tm;have t3:tmp tm 3=.ptr h.next 0:=by rw[<-u];simp only[Ei,reduceIte,Nat.reduceEqDiff]
 have t4:tmp tm 4=.ptr (h.next+1) 0:=by rw[<-u];simp only[Ei,reduceIte,Nat.reduceEqDiff]
 clear u;refine Ok.range ?_;rw[Anj H (cU _)];simp only[Ai8,dr];have y:Ext f (Bq TT 20 12 0 tm f):=Gh;have k0:(Bq TT 20 12 0 tm f).get f.next=some (.deferred true):=G3
 have k1:(Bq TT 20 12 0 tm f).get (f.next+1)=some (As TT 20 12 0 tm .ready none f.next):=Gc;generalize Bq TT 20 12 0 tm f=V at y k0 k1⊢;have J:=y.hb q;have W:V.get ar=some (.cells (arC m cur Cr) 212):=y.at q (O.at hb hA);rw[Aj (y.at q gb) rfl (v:=.ptr ar 0) rfl];simp only[Aa];rw[Dj W rfl (show Mh (arC m cur Cr) 1 6=some [I (cur 0),I (Cr 0),I (cur 1),I (Cr 1),I (cur 2),I (Cr 2)]from rfl)];have I3:At5 V (f.next+1) f.next tm h.next (h.next+1) z false:=⟨k1,y.at q g3,y.at q g4,J⟩
 refine(Be9 (K:=K) H t3 t4 (by omega) (e:=e) (by omega) (cur:=cur) (Cr:=Cr) K 0 V (by omega) (by omega) rfl I3 (Ar.refl _)).mono ?_;rintro _ h4 ⟨t,c4⟩;generalize Avg cur Cr z=b at t⊢;have P:=t.hb _ _ t.lp;have kd:h4.get f.next=some (.deferred true):=c4.at J k0 (by omega)
 have x4:Ext h h4:=(O.trans y).then c4 fun i U a=>by omega
 have l5:=t.hb _ _ t.c4;have o:∀(D:Ab) (b:Bool),D.get (h.next+1)=some (.cells [.bool b] 4)->I9 TT [.c (.ptr (h.next+1) 0) 4] D=some (.bool b,D):=by
  intro D b hg;have hr:Jg D (h.next+1) 0 1=some [.bool b]:=by unfold Jg;rw[hg];rfl
  unfold I9;simp only[Axa,show TT.size 4=some 1 by kernel_rfl,show TT.agg 4=some false by kernel_rfl,hr]
 have lp:=t.lp;cases b with
 | true=>
  simp only[bG]at lp;refine .inr ⟨lp,?_⟩;have p:HB (h4.put (f.next+1) (As TT 20 12 0 tm .exhausted (some .ret) f.next)):=t.hb.put P _;refine Ok.unwind (cQ.2 ⟨by simp,cj⟩) (fun d hd=>by rw[aO]at hd;subst hd;rw[Af _ (by omega)];exact kd) p fun M E _=>?_
  have Y:M.get (h.next+1)=some (.cells [.bool true] 4):=Ar.at E p (by rw[Af _ (by omega)];exact t.c4) (by rw[aO];omega);rw[o M true Y];exact .ret ⟨rfl,(x4.Ak (.inr (by omega)) P _).then E fun i U a=>by rw[aO]at U;omega,E.hb p⟩
 | false=>
  simp only[aU,aY]at lp;refine .inl ⟨lp,?_⟩;simp only[X3,dr];have p:HB (h4.put (f.next+1) (As TT 20 12 0 tm .exhausted none f.next)):=t.hb.put P _;have Z:(h4.put (f.next+1) (As TT 20 12 0 tm .exhausted none f.next)).get (h.next+1)=some (.cells [.bool false] 4):=by rw[Af _ (by omega)];exact t.c4
  have x5:Ext h (h4.put (f.next+1) (As TT 20 12 0 tm .exhausted none f.next)):=x4.Ak (.inr (by omega)) P _;have d5:(h4.put (f.next+1) (As TT 20 12 0 tm .exhausted none f.next)).get f.next=some (.deferred true):=by rw[Af _ (by omega)];exact kd
  generalize h4.put (f.next+1) (As TT 20 12 0 tm .exhausted none f.next)=D at p Z x5 d5⊢;have l6:=p _ _ Z;refine Ok.Zl Z rfl rfl (by show 0<1;decide) ?_;have G:HB (D.put (h.next+1) (.cells ([EV.bool false].set 0 (.bool false)) 4)):=p.put l6 _;refine Ok.unwind (cQ.2 ⟨by simp,cj⟩) (fun d hd=>by rw[aO]at hd;subst hd;rw[Af _ (by omega)];exact d5) G fun M E _=>?_
  have Y:M.get (h.next+1)=some (.cells [.bool false] 4):=Ar.at E G (Ae _ _ _) (by rw[aO];omega);rw[o M false Y];exact .ret ⟨rfl,(x5.Ak (.inr (by omega)) l6 _).then E fun i U a=>by rw[aO]at U;omega,E.hb G⟩
end
end
section
theorem Bhj(A:Ca disp)(hK:10000<K)(M:Da h m S F)(hb:HB h)(hd:7<=d)(z:Int)
 (t:∀h' T,Kp T h h'->(∀i,T i->¬F i)->HB h'->Ok (k (.bool (hasB S.ps S.g.D.toNat z)) h') Q):Ok (Ap (Bw K (.ptr m 0) h) fun v h=>Ap (Ag TT disp K d false 18 [v,I z] h) k) Q:=by
 obtain⟨lt,D,p,bl,ql,np,q,c,G,a⟩:=M.s;rw[Se a.Iv,Au];have f:=a.psz.nd;obtain⟨b1,b2,b3⟩:=a.psz.bd;subst f;refine(A9a (K:=K) A a.Gw hb a.psz.cap (by omega) (by omega) hd (by omega) z).Ap ?_;rintro _ h' ⟨rfl,u,o⟩;refine t h' _ u (fun i E y=>?_) o;obtain⟨d,hd,rfl⟩:=E;exact(a.sub.2.2.2.2.2 d hd).2.2 y
theorem Bd4(hK:10000<K)(M:Da h m S F)(hb:HB h)
 (o:∀h',Ext h h'->Ok (k (I (Zh S.ps S.g.D.toNat)) h') Q):Ok (Ap (Bw K (.ptr m 0) h) fun v h=>Ap (Iu K v h) k) Q:=by
 obtain⟨lt,D,p,bl,ql,np,q,c,G,a⟩:=M.s;rw[Se a.Iv,Au];have f:=a.psz.nd;subst f;refine(A5u (K:=K) a.Gw hb a.psz.small (by omega)).Ap ?_;rintro _ h' ⟨rfl,x⟩;exact o h' x
structure Qt(F:Nat->Prop)(h h':Ab):Prop where
 N8:∃T,Kp T h h'/\∀i,T i->¬F i
 hb:HB h'
theorem Qt.refl(hb:HB h):Qt F h h:=⟨⟨fun _=>False,Kp.refl _,fun _ y=>y.elim⟩,hb⟩
theorem Qt.ext(x:Ext h h')(hb:HB h):Qt F h h':=⟨⟨fun _=>False,Ext.kp x,fun _ y=>y.elim⟩,x.hb hb⟩
theorem Qt.trans{a b c:Ab}(x:Qt F a b)(y:Qt F b c):Qt F a c:=by
 obtain⟨⟨T,k,t⟩,_⟩:=x;obtain⟨⟨U,l,u⟩,hb⟩:=y;refine⟨⟨fun i=>T i\/U i,Kp.trans ⟨k.chg.mono fun i=>.inl,k.same⟩ ⟨l.chg.mono fun i=>.inr,l.same⟩,fun i f=>f.elim (t i) (u i)⟩,hb⟩
theorem Qt.less {F':Nat->Prop}(x:Qt F h h')(s:∀i,F' i->F i):Qt F' h h':=by
 obtain⟨⟨T,k,t⟩,hb⟩:=x;exact⟨⟨T,k,fun i a y=>t i a (s i y)⟩,hb⟩
theorem Eb.rd(C:Eb h B X F)(r:Qt F h h'):Hc h h' B X F X:=by
 obtain⟨⟨T,k,t⟩,_⟩:=r;exact C.toK k t
theorem Qt.same(r:Qt F h h')(a:i<h.next):h'.get i=h.get i:=by
 obtain⟨⟨T,k,t⟩,_⟩:=r;exact k.same i a
theorem Qt.at(r:Qt F h h')(hb:HB h){o:Dz}(g:h.get i=some o):h'.get i=some o:=by rw[r.same (hb _ _ g)];exact g
theorem Qt.next(r:Qt F h h'):h.next<=h'.next:=by
 obtain⟨⟨T,k,t⟩,_⟩:=r;exact k.chg.next
theorem Qt.chg(r:Qt F h h'):Kf F h h':=by
 obtain⟨⟨T,k,t⟩,_⟩:=r;exact k.chg.mono t
def Co.closed(X:Co)(z:Int):Bool:=decide (0<=Ej X.S.g z)&&(decide (¬z=X.S.a)&&(decide (¬z=X.S.b)&&(!X.S.I7 z&&(!Avg X.cur X.Cr z&&!hasB X.S.ps X.S.g.D.toNat z))))
theorem Vp(A:Ca disp)(hK:10000<K)(C:Eb h B X F)(hd:8<=d){z:Int}(u:Tk z):Ok (Ag TT disp K d false 21 [.ptr B.c 0,I z] h) fun v h'=>v=.bool (X.closed z)/\Qt F h h':=by
 obtain⟨e,rfl⟩:∃k,d=k+1:=⟨d-1,by omega⟩;rw[Aoj A (by omega)];simp only[Ai4,Aa];rw[C.ldM,Av6 C.M]
 try simp only[Aa]
 rw[C.ldM];refine(Nj (K:=K) C.M C.hb).Ap ?_;rintro _ h2 ⟨rfl,W⟩;refine(Jv (K:=K) C.sm z u h2).Ap ?_;rintro _ E ⟨rfl,Y⟩;have x:Ext h E:=W.trans Y;have f:=(C.toE x).C;have p:Qt F h E:=Qt.ext x C.hb;unfold Co.closed;simp only[I,Ad];have Z:Fj (.tuple []) false=false/\Fj (.tuple []) true=false:=⟨rfl,rfl⟩;by_cases c1:0<=Ej X.S.g z
 case neg=>
  simp only[c1,aA,Aa,Ad,Ue,Oj,Ir,Gx,Fs,aX];exact .ret ⟨rfl,p⟩
 simp only[c1,aB,Aa,Ad,Ue,aZ];by_cases c2:z=X.S.a
 ·simp only[c2,aD,aA,Aa,Ad,Oj,Ir,Gx,Fs,aX]
  exact .ret ⟨rfl,p⟩
 simp only[c2,aG,aB,Aa,Ad,Oj,aZ];by_cases c3:z=X.S.b
 ·simp only[c3,aD,aA,Aa,Ad,Ir,Gx,Fs,aX]
  exact .ret ⟨rfl,p⟩
 simp only[c3,aG,aB,Aa,Ad,aZ];rw[f.ldM];refine(Hy (K:=K) f.M.s f.hb u).Ap ?_;rintro _ h4 ⟨rfl,G⟩;have J:Qt F h h4:=p.trans (Qt.ext G f.hb);have o:=(f.toE G).C;cases X.S.I7 z with
 | true=>
  simp only[Aa,Ad,Ir,Gx,Fs,dP,aX];exact .ret ⟨rfl,J⟩
 | false=>
 simp only[Aa,Ad,Ir,cO,aZ];rw[o.ldA];have O:=A4g (K:=K) A (d:=e) (by omega) (by omega) o.ar o.hb z;simp only[I]at O;refine O.Ap ?_;rintro _ h5 ⟨rfl,P,_⟩;have U:Qt F h h5:=J.trans (Qt.ext P o.hb);have q:=(o.toE P).C;cases Avg X.cur X.Cr z with
 | true=>
  simp only[Aa,Ad,Gx,Fs,dP,aX];exact .ret ⟨rfl,U⟩
 | false=>
 simp only[Aa,Ad,Gx,cO,aZ];rw[q.ldM];refine Bhj A hK q.M q.hb (d:=e) (by omega) z fun h6 T k6 t6 t=>?_
 have V:Qt F h h6:=U.trans ⟨⟨T,k6,fun i hi y=>t6 i hi (.inl y)⟩,t⟩;cases hasB X.S.ps X.S.g.D.toNat z with
 | true=>
  simp only[Aa,Ad,Fs,dP];exact .ret ⟨rfl,V⟩
 | false=>
  simp only[Aa,Ad,Fs,cO];exact .ret ⟨rfl,V⟩
def Co.dead(X:Co)(z:Int):Bool:=X.closed z&&decide (Afm X.S.g X.es z=0)
theorem Bbs(A:Ca disp)(hK:10000<K)(C:Eb h B X F)(hd:9<=d){z:Int}(o:Tk z):Ok (Ag TT disp K d false 142 [.ptr B.c 0,I z] h) fun v h'=>v=.bool (X.dead z)/\Qt F h h':=by
 obtain⟨e,rfl⟩:∃k,d=k+1:=⟨d-1,by omega⟩;rw[Asj A (by omega)];simp only[An1,Aa];refine(Vp A hK C (d:=e) (by omega) o).Ap ?_;rintro _ h2 ⟨rfl,a⟩;have f:=(C.rd a).C;unfold Co.dead;have p:Fj (.tuple []) false=false/\Fj (.tuple []) true=false:=⟨rfl,rfl⟩;cases X.closed z with
 | false=>
  simp only[Aa,Ad,Wz,aX];exact .ret ⟨rfl,a⟩
 | true=>
  simp only[Aa,Ad,aZ];rw[f.ldB,Vl f.map];simp only[Aa,I,Ad,Wz];exact .ret ⟨rfl,a⟩
theorem Sm.Wj(s:Sm g):3<=g.D*g.Z/\g.D*g.Z<=512:=by
 have:=s.d0;have:=s.d1;have:=s.z0;have:=s.z1;obtain⟨f,o⟩:=N1 (a:=g.D) (b:=g.Z) (A:=8) (B:=64) (by omega) (by omega) (by omega) (by omega);have:g.D*1<=g.D*g.Z:=dX (by omega) (by omega);omega
theorem An0(A:Ca disp)(C:Eb h B X F)(a:∀h',Ext h h'->Ok (k (I (X.S.g.D*X.S.g.Z)) h') Q):Ok (Ap (Bz K (.ptr B.m 0) h) fun v h=>Ap (Cz K v h) k) Q:=by
 refine(Nj (K:=K) C.M C.hb).Ap ?_;rintro _ h2 ⟨rfl,f⟩;rw[Lh C.sm,Au];exact a _ (f.Di _)
theorem Bfd(A:Ca disp)(hK:10000<K)(y:X.S.g.D*X.S.g.Z=n)(hd:9<=d):∀(f i:Nat) (h:Ab),n-i<f->i<=n->Eb h B X F ->
 Ok (Np (Ag TT disp K d false) (Ag TT disp K d true) K f (.ptr B.c 0) (I n) (I i) h) fun v h'=>(∃b,v=.bool b)/\Qt F h h':=by
 intro f;induction f with
 | zero=>intro i h p;omega
 | succ f q=>
  intro i h p E C;have bd:=C.sm.Wj;rw[Np];simp only[I,Ad];by_cases t:i<n
  ·have:decide ((i:Int)<(n:Int))=true:=by simp;omega
   simp only[this,Aa,Ahp];refine(Bbs A hK C hd (z:=i) ⟨by omega,by omega⟩).Ap ?_;rintro _ h2 ⟨rfl,o⟩;cases X.dead i with
   | true=>
    simp only[Aa];exact .ret ⟨⟨_,rfl⟩,o⟩
   | false=>
    simp only[Aa,Ah4,Ad];rw[Cn (by omega) (by omega),show((i:Nat):Int)+1=((i+1:Nat):Int) by omega];refine(q (i+1) h2 (by omega) (by omega) (C.rd o).C).mono ?_;rintro v G ⟨a,u⟩;exact⟨a,o.trans u⟩
  ·have:decide ((i:Int)<(n:Int))=false:=by simp;omega
   simp only[this,Aa,Ah7];exact .ret ⟨⟨_,rfl⟩,Qt.refl C.hb⟩
theorem Bl2(A:Ca disp)(hK:10000<K)(C:Eb h B X F)(hd:10<=d):Ok (Ag TT disp K d false 198 [.ptr B.c 0] h) fun v h'=>(∃b,v=.bool b)/\Qt F h h':=by
 obtain⟨e,rfl⟩:∃k,d=k+1:=⟨d-1,by omega⟩;rw[Ara A (by omega)];simp only[Am4,Aa];rw[C.ldM];refine An0 A C fun h2 f=>?_
 have bd:=C.sm.Wj;obtain⟨n,o⟩:=bD (show 0<=X.S.g.D*X.S.g.Z by omega);rw[o];refine(Bfd A hK o (d:=e) (by omega) K 0 h2 (by omega) (by omega) (C.toE f).C).mono ?_;rintro v q ⟨a,p⟩;exact⟨a,(Qt.ext f C.hb).trans p⟩
end
section
theorem Bp9:(Dt TT 80 0).2.1 = [8,9]:=by kernel_rfl
def inB(z:Int)(x:Me):Bool:=decide (x.state=1)&&(decide (x.An=z)||decide (x.Br=z))
def ItS(N:Nat)(i:Nat):Prop:=N<=i/\i<N+4
structure A6y(h:Ab)(N:Nat)(tm:Ax)(l0:Nat)(stop:Bool):Prop where
 y:h.get N=some (.cells [.Sy l0] 42)
 d:h.get (N+2)=some (.deferred true)
 l:h.get (N+3)=some (As TT 80 31 0 tm (if stop then .done else .ready) (if stop then some .ret else none) (N+2))
 lt:N+4<=h.next
structure Bfh(disp:Nat->Option FT)(K e l0 zq b ml ll:Nat)(g:Gm)(es:List Me)(z:Int)(N:Nat)(Inv:Nat->Ab->Prop)(Stop:Ab->Prop):Prop where
 frI:∀j h h',Inv j h->Ar (ItS N) h h'->Inv j h'
 frS:∀h h',Stop h->Ar (ItS N) h h'->Stop h'
 Dp:∀j (hj:j<es.length) h,inB z es[j]=true->Inv j h->N+4<=h.next->∃more h',Ag TT disp K e true l0 [I j] h=some (.bool more,h')/\Ar (fun i=>¬ItS N i) h h'/\(if more=true then Inv (j+1) h' else Stop h')
 skp:∀j (hj:j<es.length) h,inB z es[j]=false->Inv j h->Inv (j+1) h
 hbI:∀j h,Inv j h->HB h
 hbS:∀h,Stop h->HB h
 map:∀j h,Inv j h->Q0 h b ml ll g es
 zon:∀j h,Inv j h->h.get zq=some (.cells [I z] 3)
section
variable (H:Ca disp){b ml ll:Nat}{z:Int}{N:Nat}{Inv:Nat->Ab->Prop}(c:Bfh disp K e l0 zq b ml ll g es z N Inv Stop)(t2:tmp tm 2=.ptr zq 0)(t3:tmp tm 3=.ptr N 0)(lz:zq<N)(he:2<=e)
include H c t2 t3 lz he
theorem Bip(hj:j<es.length)(S0:A6y h N tm l0 false)(I0:Inv j h):
 ∃more h',Ag TT disp K (e+1) true (N+3) [I j,.agg es[j].cells] h=some (.bool more,h')/\A6y h' N tm l0 (!more)/\(if more=true then Inv (j+1) h' else Stop h'):=by
 have W:=S0.l;simp only[aU,aY]at W;have a:=W;have hb:=c.hbI _ _ I0;have Dp:=c.Dp j hj;have skp:=c.skp j hj;generalize es[j]=x at Dp skp⊢;unfold As at a;rw[Bp9]at a;rw[Aof H he tm h (I j) _ a,t2,t3];simp only[Ajx,Aa];rw[Akl (h:=h.new (.cells [EV.int .i64 0,.int .i64 0,.int .i64 0,.int .i64 0,.int .i64 0,.int .i64 0] 53)) (i:=h.next) (o:=0) (n:=6) (v:=.agg x.cells) (l:=[EV.int .i64 0,.int .i64 0,.int .i64 0,.int .i64 0,.int .i64 0,.int .i64 0]) (l':=x.cells) (t:=53) (Ac _ _) rfl rfl rfl];have u:Ext h ((h.new (.cells [EV.int .i64 0,.int .i64 0,.int .i64 0,.int .i64 0,.int .i64 0,.int .i64 0] 53)).put h.next (.cells x.cells 53)):=(Ar.new h _:Ext _ _).Ak (.inr (aC _)) (aE _) _;have e3:((h.new (.cells [EV.int .i64 0,.int .i64 0,.int .i64 0,.int .i64 0,.int .i64 0,.int .i64 0] 53)).put h.next (.cells x.cells 53)).get h.next=some (.cells x.cells 53):=Ae _ _ _
 generalize (h.new (.cells [EV.int .i64 0,.int .i64 0,.int .i64 0,.int .i64 0,.int .i64 0,.int .i64 0] 53)).put h.next (.cells x.cells 53)=f at u e3⊢
 have Y:=u.hb hb;have q0:=u.at hb W;have l3:=Y _ _ q0;rw[Qo q0];have D:ItS N (N+3):=⟨by omega,by omega⟩;have c4:Ar (ItS N) h (f.put (N+3) (As TT 80 31 0 tm .busy none (N+2))):=(Ext.to (S:=ItS N) u).Ak (.inl D) l3 _;have r0:(f.put (N+3) (As TT 80 31 0 tm .busy none (N+2))).get (N+3)=some (As TT 80 31 0 tm .busy none (N+2)):=Ae _ _ _;have E:(f.put (N+3) (As TT 80 31 0 tm .busy none (N+2))).get N=some (.cells [.Sy l0] 42):=by rw[Af _ (by omega)];exact u.at hb S0.y
 have rd:(f.put (N+3) (As TT 80 31 0 tm .busy none (N+2))).get (N+2)=some (.deferred true):=by rw[Af _ (by omega)];exact u.at hb S0.d
 have P:(f.put (N+3) (As TT 80 31 0 tm .busy none (N+2))).get h.next=some (.cells x.cells 53):=by rw[Af _ (by have:=S0.lt;omega)];exact e3
 have G:=c.frI _ _ _ I0 c4;have J:h.next<=(f.put (N+3) (As TT 80 31 0 tm .busy none (N+2))).next:=c4.next
 generalize f.put (N+3) (As TT 80 31 0 tm .busy none (N+2))=h4 at c4 r0 E rd P G J⊢;have p:=c.hbI _ _ G;have rz:=c.zon _ _ G;have l4:=p _ _ r0;have Z:=S0.lt;have al:Fj (.tuple []) false=false/\Fj (.tuple []) true=false:=⟨rfl,rfl⟩;have no:inB z x=false->∃more h',Su (N+3) true .ready none h4=some (.bool more,h')/\A6y h' N tm l0 (!more)/\(if more=true then Inv (j+1) h' else Stop h'):=fun hn=>by
  rw[Js r0];refine⟨true,_,rfl,⟨by rw[Af _ (by omega)];exact E,by rw[Af _ (by omega)];exact rd,Ae _ _ _,by rw[Ab.Qf];omega⟩,?_⟩;rw[aN rfl];exact c.frI _ _ _ (skp h4 hn G) ((Ar.refl (S:=ItS N) h4).Ak (.inl D) l4 _)
 have yes:inB z x=true->∃more h',Ap (Rn (Ag TT disp K e false) (Ag TT disp K e true) (.Sy l0) [.int .i64 (j:Int)] h4) (fun aa h=>Afz aa fun ab=>Jk (Ag TT disp K e false) (Ag TT disp K e true) K (N+3) (.bool true) ab h)=some (.bool more,h')/\A6y h' N tm l0 (!more)/\(if more=true then Inv (j+1) h' else Stop h'):=fun hy=>by
  obtain⟨more,U,e5,c5,i5⟩:=Dp h4 hy G (bN Z J);have hc:Rn (Ag TT disp K e false) (Ag TT disp K e true) (.Sy l0) [.int .i64 (j:Int)] h4=some (.bool more,U):=e5;rw[hc,Au];have kp:∀k o,ItS N k->h4.get k=some o->U.get k=some o:=fun k o hk g=>c5.at p g fun y=>y hk
  have q:=kp _ _ D r0;have M:=kp N _ ⟨by omega,by omega⟩ E;have O:=kp (N+2) _ ⟨by omega,by omega⟩ rd;have ad:=c5.hb p;have l5:=ad _ _ q;have ax:=c5.next
  cases more with
  | true=>
   simp only[Aa,Ad,Jk];rw[Js q];refine⟨true,_,rfl,⟨by rw[Af _ (by omega)];exact M,by rw[Af _ (by omega)];exact O,Ae _ _ _,by rw[Ab.Qf];omega⟩,?_⟩;rw[aN rfl]at i5⊢;exact c.frI _ _ _ i5 ((Ar.refl (S:=ItS N) U).Ak (.inl D) l5 _)
  | false=>
   simp only[Aa,Ad,Jk];rw[Js q];refine⟨false,_,rfl,⟨by rw[Af _ (by omega)];exact M,by rw[Af _ (by omega)];exact O,Ae _ _ _,by rw[Ab.Qf];omega⟩,?_⟩;rw[aK (by simp)]at i5⊢;exact c.frS _ _ i5 ((Ar.refl (S:=ItS N) U).Ak (.inl D) l5 _)
 simp only[Aau,Aa];rw[Aj P rfl (v:=I x.state) rfl];unfold inB at no yes;simp only[I,Ad];by_cases s1:x.state=1
 case neg=>
  simp only[s1,aA,Aa,Ad,Px,Ln,Lv,Jk];exact no (by rw[aQ s1,aX])
 simp only[s1,aB,Aa,Ad];rw[Aj P rfl (v:=I x.An) rfl,Aj rz rfl (v:=I z) rfl];simp only[I,Ad];by_cases z1:x.An=z
 ·simp only[z1,aB,Aa,Ad,Px,Ln,Lv]
  rw[Aj E rfl (v:=.Sy l0) rfl];exact yes (by rw[aP s1,aP z1];rfl)
 simp only[z1,aA,Aa,Ad,Px];rw[Aj P rfl (v:=I x.Br) rfl,Aj rz rfl (v:=I z) rfl];simp only[I,Ad];by_cases V:x.Br=z
 ·simp only[V,aB,Aa,Ad,Ln,Lv]
  rw[Aj E rfl (v:=.Sy l0) rfl];exact yes (by rw[aP s1,aP V,Bool.or_true];rfl)
 simp only[V,aA,Aa,Ad,Ln,Lv,Jk];exact no (by rw[aQ z1,aQ V,Bool.or_false,cn])
theorem Bmy(D:es.length<=256):∀(m i:Nat) (h:Ab),es.length-i<m->i<=es.length->A6y h N tm l0 false->Inv i h ->
 Ok (Ce (Ag TT disp K (e+1) false) (Ag TT disp K (e+1) true) K m (.Sy (N+3)) (.slice ml 0 es.length es.length false) (I es.length) (I i) h) fun _ h'=>∃stop,A6y h' N tm l0 stop/\(if stop=true then Stop h' else Inv es.length h')/\HB h':=by
 intro m;induction m with
 | zero=>intro i h hm;omega
 | succ m q=>
  intro i h hm E S0 f;have hb:=c.hbI _ _ f;have t:=(c.map _ _ f).row;rw[Ce];simp only[I,Ad,Aa];by_cases a:i<es.length
  ·have:decide ((i:Int)<(es.length:Int))=true:=by simp;omega
   simp only[this,Aa,Gf];rw[Mg a,bC,Dj t rfl (Axm es a)]
   try simp only[Aa]
   have rd:=fun h S0 f=>Bip (K:=K) H c t2 t3 lz he a (h:=h) S0 f
   generalize es[i]=x at rd⊢;refine Ok.stW (Ac _ _) rfl rfl ?_;have o:Ext h ((h.new (.cells [EV.int .i64 0,.int .i64 0,.int .i64 0,.int .i64 0,.int .i64 0,.int .i64 0] 53)).put h.next (.cells x.cells 53)):=(Ar.new h _:Ext _ _).Ak (.inr (aC _)) (aE _) _;have e3:((h.new (.cells [EV.int .i64 0,.int .i64 0,.int .i64 0,.int .i64 0,.int .i64 0,.int .i64 0] 53)).put h.next (.cells x.cells 53)).get h.next=some (.cells x.cells 53):=Ae _ _ _
   generalize (h.new (.cells [EV.int .i64 0,.int .i64 0,.int .i64 0,.int .i64 0,.int .i64 0,.int .i64 0] 53)).put h.next (.cells x.cells 53)=p at o e3⊢
   rw[Dj e3 rfl (Am (n:=6) rfl)];have S3:A6y p N tm l0 false:=⟨o.at hb S0.y,o.at hb S0.d,o.at hb S0.l,bN S0.lt o.next⟩;obtain⟨more,h4,u,S4,i4⟩:=rd p S3 (c.frI _ _ _ f (Ext.to o));have v:Rn (Ag TT disp K (e+1) false) (Ag TT disp K (e+1) true) (.Sy (N+3)) [.int .i64 (i:Int),.agg x.cells] p=some (.bool more,h4):=u;rw[v,Au];cases more with
   | false=>
    simp only[Aa];rw[aK (by simp)]at i4;refine .ret ⟨true,S4,by rw[aN rfl];exact i4,?_⟩;exact c.hbS _ i4
   | true=>
    simp only[Aa,Gd,Ad];rw[aN rfl]at i4;rw[Cn (by omega) (by omega),show((i:Nat):Int)+1=((i+1:Nat):Int) by omega];exact q (i+1) h4 (by omega) (by omega) S4 i4
  ·have:decide ((i:Int)<(es.length:Int))=false:=by simp;omega
   have:i=es.length:=by omega
   subst this;simp only[Aa,aA,Int.lt_irrefl];exact .ret ⟨false,S0,by rw[aK (by simp)];exact f,hb⟩
end
theorem Bpf(H:Ca disp)(hK:1000<K){J b ml ll:Nat}{z:Int}{Inv:Nat->Ab->Prop}(c:Bfh disp K e l0 zq b ml ll g es z h0.next Inv Stop)(he:2<=e)(s:Sm g)(gv:h0.get J=some (.cells [.ptr b 0] 49))(D:Inv 0 h0):
 Ok (Ag TT disp K (e+3) false 80 [.Sy l0,.ptr J 0,.ptr zq 0] h0) fun v h'=>v=.tuple []/\(Inv es.length h'\/Stop h'):=by
 have:=s.b0;have:=s.b1;have hb:=c.hbI _ _ D;have mp:=c.map _ _ D;have gz:=c.zon _ _ D;have hlen:=mp.len;have lz:=hb _ _ gz;have lm:=hb _ _ mp.row;rw[Att H (by omega)];simp only[Aq0,dr];rw[Blv rfl];have p:Ext h0 (h0.new (.cells (EV.Sy l0).cells 42)):=Ar.new _ _;have W:(h0.new (.cells (EV.Sy l0).cells 42)).get h0.next=some (.cells [.Sy l0] 42):=Ac _ _
 have Y:(h0.new (.cells (EV.Sy l0).cells 42)).next=h0.next+1:=rfl
 generalize h0.new (.cells (EV.Sy l0).cells 42)=a at p W Y⊢;have q:=p.hb hb;rw[Aj (p.at hb gv) rfl (v:=.ptr b 0) rfl];simp only[Xm,Aa,Fo];rw[Aj (p.at hb mp.map) rfl (v:=.slice ml 0 g.B.toNat g.B.toNat false) rfl,<-hlen];simp only[Aa];have E:Ext a (a.new (.cells [.slice ml 0 es.length es.length false] 141)):=Ar.new _ _;have Z:(a.new (.cells [.slice ml 0 es.length es.length false] 141)).get a.next=some (.cells [.slice ml 0 es.length es.length false] 141):=Ac _ _
 have n2:(a.new (.cells [.slice ml 0 es.length es.length false] 141)).next=h0.next+2:=by rw[Ab.Cv,Y]
 generalize a.new (.cells [.slice ml 0 es.length es.length false] 141)=h2 at E Z n2⊢;have t:=E.hb q;generalize f:(((((Tr.nil.put 0 (some (EV.Sy l0))).put 1 (some (EV.ptr J 0))).put 2 (some (EV.ptr zq 0))).put 3 (some (EV.ptr h0.next 0))).put 6 (some (EV.ptr b 0))).put 7 (some (EV.func 201 [] [EV.ptr a.next 0]))=tm;have t2:tmp tm 2=.ptr zq 0:=by rw[<-f];simp only[Ei,reduceIte,Nat.reduceEqDiff]
 have t3:tmp tm 3=.ptr h0.next 0:=by rw[<-f];simp only[Ei,reduceIte,Nat.reduceEqDiff]
 clear f;refine Ok.range ?_;have u:Ext h2 (Bq TT 80 31 0 tm h2):=Gh;have M:(Bq TT 80 31 0 tm h2).get h2.next=some (.deferred true):=G3
 have O:(Bq TT 80 31 0 tm h2).get (h2.next+1)=some (As TT 80 31 0 tm .ready none h2.next):=Gc;have n3:(Bq TT 80 31 0 tm h2).next=h2.next+2:=rfl
 generalize Bq TT 80 31 0 tm h2=P at u M O n3⊢;have af:=u.hb t;rw[n2]at M O n3⊢;have U:Ext h0 P:=(p.trans E).trans u;rw[Jp H (cU _)];simp only[G2,dr];rw[Aj (u.at t Z) rfl (v:=.slice ml 0 es.length es.length false) rfl];simp only[Aa];have S3:A6y P h0.next tm l0 false:=⟨Ext.at (E.trans u) q W,M,O,by omega⟩
 have I3:=c.frI _ _ _ D (Ext.to U);refine(Bmy (K:=K) H c t2 t3 lz he (by omega) K 0 P (by omega) (by omega) S3 I3).mono ?_;rintro _ h4 ⟨stop,S4,i4,o⟩;have lp:=S4.l;have G:=o _ _ lp;have ah:=S4.lt;have sd:ItS h0.next (h0.next+2):=⟨by omega,by omega⟩
 have sl:ItS h0.next (h0.next+3):=⟨by omega,by omega⟩
 cases stop with
 | true=>
  simp only[bG]at lp i4;refine .inr ⟨lp,?_⟩;have d5:(h4.put (h0.next+2+1) (As TT 80 31 0 tm .exhausted (some .ret) (h0.next+2))).get (h0.next+2)=some (.deferred true):=by rw[Af _ (by omega)];exact S4.d
  refine Ok.unwind (cQ.2 ⟨by simp,cj⟩) (fun d hd=>by rw[aO]at hd;subst hd;exact d5) (o.put G _) fun h6 V _=>?_
  refine .ret ⟨rfl,.inr (c.frS _ _ i4 (((Ar.refl (S:=ItS h0.next) h4).Ak (.inl sl) G _).trans (V.mono fun i y=>by rw[aO]at y;subst y;exact sd)))⟩
 | false=>
  simp only[aU,aY]at lp i4;refine .inl ⟨lp,?_⟩;have d5:(h4.put (h0.next+2+1) (As TT 80 31 0 tm .exhausted none (h0.next+2))).get (h0.next+2)=some (.deferred true):=by rw[Af _ (by omega)];exact S4.d
  refine Ok.unwind (cQ.2 ⟨by simp,cj⟩) (fun d hd=>by rw[aO]at hd;subst hd;exact d5) (o.put G _) fun h6 V _=>?_
  refine .ret ⟨rfl,.inl (c.frI _ _ _ i4 (((Ar.refl (S:=ItS h0.next) h4).Ak (.inl sl) G _).trans (V.mono fun i y=>by rw[aO]at y;subst y;exact sd)))⟩
end
section
theorem Qt.U6(q:Qt F h0 h)(c:Ar T h h')(t:∀i,T i->h0.next<=i):Qt F h0 h':=by
 obtain⟨⟨U,k,u⟩,hb⟩:=q;exact⟨⟨U,k.A37 c t,u⟩,c.hb hb⟩
theorem Ok.Ak2(H:Ca disp)(hK:1000<K){a b ml ll:Nat}{z:Int}{Inv:Nat->Ab->Prop}{fn:Nat}{k:Ab->List Nat->R}{ret:Ab->List Nat->R}
 (c:Bfh disp K e (h.next+1) zq b ml ll g es z (h.next+2) Inv Stop) (he:2<=e) (s:Sm g) (f:h.get a=some (.cells [.ptr b 0] 49)) (hb:HB h) (o:Inv 0 (Bq TT fn n i tm h))
 (p:∀h',Inv es.length h'->h'.get (h.next+1)=some (As TT fn n i tm .ready none h.next)/\Ok (k (h'.put (h.next+1) (As TT fn n i tm .exhausted none h.next)) (h.next::ds)) Q)
 (q:∀h',Stop h'->h'.get (h.next+1)=some (As TT fn n i tm .done (some .ret) h.next)/\Ok (ret (h'.put (h.next+1) (As TT fn n i tm .exhausted (some .ret) h.next)) (h.next::ds)) Q) :
 Ok (Q2 (Ag TT disp K (e+3) false) TT fn n i (.func 80 [] [.ptr a 0,.ptr zq 0]) tm h ds k ex ret) Q:=by
 refine Ok.range ((Bpf (K:=K) H hK (h0:=Bq TT fn n i tm h) c he s (Gh.at hb f) o).mono ?_);rintro _ h' ⟨rfl,y|y⟩
 ·exact .inl (p h' y)
 ·exact .inr (q h' y)
def Auk(S:Mi)(x:Me):Bool:=!S.I7 x.An&&!S.I7 x.Br
def T6(S:Mi)(z:Int)(es:List Me):Bool:=es.all fun x=>!inB z x||Auk S x
theorem Aj9{z:Int}(hj:j<es.length):T6 S z (es.take (j+1))=(T6 S z (es.take j)&&(!inB z es[j]||Auk S es[j])):=by
 unfold T6;rw[List.take_add_one,List.all_append,aH hj];simp
theorem Bj1{z:Int}(hj:j<es.length)(a:inB z es[j]=true)(f:Auk S es[j]=false):T6 S z es=false:=by
 unfold T6;rw[List.all_eq_false];exact⟨es[j],bF hj,by rw[a,f];simp⟩
structure A4x(F:Nat->Prop)(h0 h:Ab)(l0:Nat)(tm:Ax)(B:Cb)(zq:Nat)(z:Int)(stop:Bool):Prop where
 q:Qt F h0 h
 lp:h.get l0=some (As TT 84 40 0 tm (if stop then .done else .ready) (if stop then some .ret else none) (l0-1))
 dd:h.get (l0-1)=some (.deferred true)
 c2:h.get h0.next=some (.cells [.ptr B.c 0] 26)
 c4:h.get (h0.next+1)=some (.cells [.bool false] 4)
 zq:h.get zq=some (.cells [I z] 3)
theorem A4x.chg{z:Int}{stop:Bool}(w:A4x F h0 h l0 tm B zq z stop)(c:Ar T h h')(t:∀i,T i->l0<i)(l:h0.next+1<l0)(lz:zq<l0):A4x F h0 h' l0 tm B zq z stop:=by
 have kp:∀i o,h.get i=some o->i<=l0->h'.get i=some o:=fun i o g a=>c.at w.q.hb g fun y=>by have:=t i y;omega
 exact⟨w.q.U6 c fun i a=>by have:=t i a;omega,kp _ _ w.lp (aC _),kp _ _ w.dd (by omega),kp _ _ w.c2 (by omega),kp _ _ w.c4 (by omega),kp _ _ w.zq (by omega)⟩
theorem Bp6:(Dt TT 84 0).2.1 = [14]:=by kernel_rfl
theorem Baz(hj:j<es.length):Ak4 es (j:Int)=(es[j],0):=by
 unfold Ak4;rw[aN ⟨by omega,by omega⟩,bK,aH hj];rfl
theorem A2w(s:Sm g){x:Me}(h:meR g x=true):Tk x.An/\Tk x.Br:=by
 obtain⟨_,a,b,_⟩:=Bht s h;exact⟨⟨by omega,by omega⟩,⟨by omega,by omega⟩⟩
section
variable (A:Ca disp)(hK:10000<K)(C:Eb h0 B X F)
include A C
theorem A7u{z:Int}(t2:tmp tm 2=.ptr h0.next 0)(t4:tmp tm 4=.ptr (h0.next+1) 0)(l:h0.next+1<l0)(lz:zq<l0)(nz:h0.next+1<zq)(he:4<=e)(hj:j<X.es.length)(D:A4x F h0 h l0 tm B zq z false):
 Ok (Ag TT disp K e true l0 [I j] h) fun v h'=>v=.bool (Auk X.S X.es[j])/\Ar (fun i=>i=l0\/i=h0.next+1) h h'/\A4x F h0 h' l0 tm B zq z (!Auk X.S X.es[j]):=by
 obtain⟨e,rfl⟩:∃k,e=k+1:=⟨e-1,by omega⟩;have hg:=D.lp;simp only[aU,aY]at hg;have E:=hg;unfold As at E;rw[Bp6]at E;rw[Ak5 A (by omega) tm h (I j) E,t2,t4];have hb:=D.q.hb;have P:=hb _ _ hg;simp only[Ae8,Qo hg,Xc,dr];have n4:l0≠h0.next+1:=by omega
 have c1:Ar (fun i=>i=l0\/i=h0.next+1) h (h.put l0 (As TT 84 40 0 tm .busy none (l0-1))):=(Ar.refl h).Ak (.inl (.inl rfl)) P _;have g0:(h.put l0 (As TT 84 40 0 tm .busy none (l0-1))).get l0=some (As TT 84 40 0 tm .busy none (l0-1)):=Ae _ _ _;have kp:∀i o,h.get i=some o->i≠l0->(h.put l0 (As TT 84 40 0 tm .busy none (l0-1))).get i=some o:=fun i o g U=>by rw[Af _ (cN U)];exact g
 have gd:=kp _ _ D.dd (by omega);have G:=kp _ _ D.c2 (by omega);have g4:=kp _ _ D.c4 (by omega);have gz:=kp _ _ D.zq (by omega);have q1:Qt F h0 (h.put l0 (As TT 84 40 0 tm .busy none (l0-1))):=D.q.U6 ((Ar.refl (S:=fun i=>i=l0) h).Ak (.inl rfl) P _) fun i U=>by omega
 clear kp;generalize h.put l0 (As TT 84 40 0 tm .busy none (l0-1))=h1 at c1 g0 gd G g4 gz q1⊢;have t:=(C.rd q1).C;rw[Aj G rfl (v:=.ptr B.c 0) rfl];simp only[Aa];rw[t.ldB];refine(U0 (K:=K) C.sm t.map t.hb j).Ap ?_;rintro _ h2 ⟨rfl,x2⟩;rw[Baz hj];have hx:=C.map.ok _ (bF hj);obtain⟨r1,r2⟩:=A2w C.sm hx;unfold Auk;generalize X.es[j]=x at r1 r2⊢;simp only[Aa];have ai:=x2.hb t.hb;refine Ok.stW (Ac _ _) rfl rfl ?_;have x3:Ext h2 ((h2.new (.cells [EV.int .i64 0,.int .i64 0,.int .i64 0,.int .i64 0,.int .i64 0,.int .i64 0] 53)).put h2.next (.cells x.cells 53)):=(Ar.new h2 _:Ext _ _).Ak (.inr (aC _)) (aE _) _;have e3:((h2.new (.cells [EV.int .i64 0,.int .i64 0,.int .i64 0,.int .i64 0,.int .i64 0,.int .i64 0] 53)).put h2.next (.cells x.cells 53)).get h2.next=some (.cells x.cells 53):=Ae _ _ _
 generalize (h2.new (.cells [EV.int .i64 0,.int .i64 0,.int .i64 0,.int .i64 0,.int .i64 0,.int .i64 0] 53)).put h2.next (.cells x.cells 53)=h3 at x3 e3⊢
 have J:=x2.trans x3;have a:=x3.hb ai;have V:∀{i o},h1.get i=some o->h3.get i=some o:=fun g=>Ext.at J t.hb g
 have C3:=(t.toE J).C;have l2:=a _ _ (V G);have lc:=a _ _ C3.core;have le:=a _ _ e3;rw[Ah l2 (by kernel_rfl),Aj (V G) rfl (v:=.ptr B.c 0) rfl];simp only[Aa,Aw];rw[Ah lc (by kernel_rfl),C3.ldM];simp only[Aa,Aw];rw[Ah le (by kernel_rfl),Aj e3 rfl (v:=I x.An) rfl];simp only[Aa,Aw];refine Ok.Ds (by kernel_rfl) (by kernel_rfl) (Hy (K:=K) (C3.M.same (Aot.lift _)).s (Du a) r1) (fun _ _ p=>p.2) ?_;rintro _ ba h4 ⟨rfl,_⟩ _ x4;have aq:=x4.hb a;have u:=J.trans x4;have fin:∀(b:Bool) (y:Ab),Ext h1 y->Ok (Dd (Ag TT disp K e false) (Ag TT disp K e true) K l0 h3.next ⟨0,[],[],[],[]⟩ (.ptr (h0.next+1) 0) (.bool (!b)) (.bool (!b)) y) fun v h'=>v=.bool b/\Ar (fun i=>i=l0\/i=h0.next+1) h h'/\A4x F h0 h' l0 tm B zq z (!b):=fun b y O=>by
  have W:=O.hb t.hb;have f:∀{i o},h1.get i=some o->y.get i=some o:=fun g=>Ext.at O t.hb g
  have q5:=q1.trans (Qt.ext O t.hb);have l5:=W _ _ (f g0);have Y:=W _ _ (f g4);have c5:=c1.trans (Ext.to O);cases b with
  | true=>
   simp only[Dd,dP,Aa,Ad];rw[Js (f g0)];exact .ret ⟨rfl,c5.Ak (.inl (.inl rfl)) l5 _,q5.U6 ((Ar.refl (S:=fun i=>i=l0) y).Ak (.inl rfl) l5 _) (fun i U=>by omega),Ae _ _ _,by rw[Af _ (by omega)];exact f gd,by rw[Af _ (by omega)];exact f G,by rw[Af _ (by omega)];exact f g4,by rw[Af _ (by omega)];exact f gz⟩
  | false=>
   simp only[Dd,cO,Aa,Ad];rw[Akl (o:=0) (n:=1) (v:=.bool false) (l':=[.bool false]) (f g4) rfl rfl rfl,Js (by rw[Af _ (cN n4)];exact f g0)];exact .ret ⟨rfl,(c5.Ak (.inl (.inr rfl)) Y _).Ak (.inl (.inl rfl)) l5 _,q5.U6 (((Ar.refl (S:=fun i=>h0.next<=i) y).Ak (.inl (by omega)) Y _).Ak (.inl (by omega)) l5 _) (fun i U=>U),Ae _ _ _,
    by rw[Af _ (by omega),Af _ (by omega)];exact f gd,by rw[Af _ (by omega),Af _ (by omega)];exact f G,by rw[Af _ (by omega)];exact Ae _ _ _,by rw[Af _ (by omega),Af _ (by omega)];exact f gz⟩
 cases X.S.I7 x.An with
 | true=>
  have:=fin false h4 u;simp only[Dd,cO,Aa,Ad]at this;simp only[Aa,Ad,Dd,dP,aX];exact this
 | false=>
 simp only[Aa,Ad,cO,aZ];have au:∀{i o},h1.get i=some o->h4.get i=some o:=fun g=>Ext.at u t.hb g
 have C4:=(t.toE u).C;rw[Ah l2 (by kernel_rfl),Aj (au G) rfl (v:=.ptr B.c 0) rfl];simp only[Aa,Aw];rw[Ah lc (by kernel_rfl),C4.ldM];simp only[Aa,Aw];rw[Ah le (by kernel_rfl),Aj (x4.at a e3) rfl (v:=I x.Br) rfl];simp only[Aa,Aw];refine Ok.Ds (by kernel_rfl) (by kernel_rfl) (Hy (K:=K) (C4.M.same (Aot.lift _)).s (Du aq) r2) (fun _ _ p=>p.2) ?_;rintro _ bb y ⟨rfl,_⟩ _ O;have Z:=u.trans O;cases X.S.I7 x.Br with
 | true=>
  have:=fin false y Z;simp only[Dd,cO,Aa,Ad]at this;simp only[Aa,Ad,Dd,dP];exact this
 | false=>
  have:=fin true y Z;simp only[Dd,dP,Aa,Ad]at this;simp only[Aa,Ad,Dd,cO];exact this
include hK
theorem Bgd(hd:8<=d)(z:Int):Ok (Ag TT disp K d false 84 [.ptr B.c 0,I z] h0) fun v h'=>v=.bool (T6 X.S z X.es)/\Qt F h0 h':=by
 obtain⟨e,rfl⟩:∃k,d=k+3+1:=⟨d-4,by omega⟩;rw[Ap8 A (by omega)];simp only[Al6,Aa];have hb:=C.hb;have P:Ext h0 ((h0.new (.cells [.ptr B.c 0] 26)).new (.cells [.bool false] 4)):=(Ar.new _ _).Di _;have G:((h0.new (.cells [.ptr B.c 0] 26)).new (.cells [.bool false] 4)).next=h0.next+2:=rfl
 have W:((h0.new (.cells [.ptr B.c 0] 26)).new (.cells [.bool false] 4)).get h0.next=some (.cells [.ptr B.c 0] 26):=by rw[Ay _ (aE _)];exact Ac _ _
 have J:((h0.new (.cells [.ptr B.c 0] 26)).new (.cells [.bool false] 4)).get (h0.next+1)=some (.cells [.bool false] 4):=Ac _ _;rw[show(h0.new (.cells [.ptr B.c 0] 26)).next=h0.next+1 from rfl];generalize (h0.new (.cells [.ptr B.c 0] 26)).new (.cells [.bool false] 4)=o at P G W J⊢;have t:=P.hb hb;have C1:=(C.toE P).C;rw[Aj W rfl (v:=.ptr B.c 0) rfl];simp only[Aa];rw[C1.ldB];simp only[Pc,Aa,I];have M:Ext o ((o.new (.cells [.ptr B.b 0] 49)).new (.cells [.int .i64 z] 3)):=(Ar.new _ _).Di _;have n2:((o.new (.cells [.ptr B.b 0] 49)).new (.cells [.int .i64 z] 3)).next=h0.next+4:=by rw[Ab.Cv,Ab.Cv,G]
 have gv:((o.new (.cells [.ptr B.b 0] 49)).new (.cells [.int .i64 z] 3)).get (h0.next+2)=some (.cells [.ptr B.b 0] 49):=by rw[<-G,Ay _ (aE _)];exact Ac _ _
 have gz:((o.new (.cells [.ptr B.b 0] 49)).new (.cells [.int .i64 z] 3)).get (h0.next+3)=some (.cells [I z] 3):=by rw[show h0.next+3=(o.new (.cells [.ptr B.b 0] 49)).next by rw[Ab.Cv,G]];exact Ac _ _
 rw[show(o.new (.cells [.ptr B.b 0] 49)).next=h0.next+3 by rw[Ab.Cv,G],G];generalize (o.new (.cells [.ptr B.b 0] 49)).new (.cells [.int .i64 z] 3)=h2 at M n2 gv gz⊢;have f:=M.hb t;have Y:Ext h0 h2:=P.trans M;generalize u:(((((((((Tr.nil.put 0 (some (EV.ptr B.c 0))).put 1 (some (EV.int .i64 z))).put 2 (some (EV.ptr h0.next 0))).put 4 (some (EV.ptr (h0.next+1) 0))).put 8 (some (EV.ptr B.c 0))).put 9 (some (EV.ptr B.c 0))).put 10 (some (EV.ptr B.c 2))).put 11 (some (EV.ptr B.b 0))).put 12 (some (EV.int .i64 z))).put 13 (some (EV.func 80 [] [EV.ptr (h0.next+2) 0,EV.ptr (h0.next+3) 0]))=tm;have t2:tmp tm 2=.ptr h0.next 0:=by rw[<-u];simp only[Ei,reduceIte,Nat.reduceEqDiff]
 have t4:tmp tm 4=.ptr (h0.next+1) 0:=by rw[<-u];simp only[Ei,reduceIte,Nat.reduceEqDiff]
 clear u;have nl:h2.next+1=h0.next+5:=by omega
 have hlen:=C.map.len;have cl:Bfh disp K e (h2.next+1) (h0.next+3) B.b B.ml B.ll X.S.g X.es z (h2.next+2) (fun j h=>A4x F h0 h (h2.next+1) tm B (h0.next+3) z false/\T6 X.S z (X.es.take j)=true) (fun h=>A4x F h0 h (h2.next+1) tm B (h0.next+3) z true/\T6 X.S z X.es=false):=by
  refine⟨fun j h h' w c=>⟨w.1.chg c (fun i a=>by have:=a.1;omega) (by omega) (by omega),w.2⟩,fun h h' w c=>⟨w.1.chg c (fun i a=>by have:=a.1;omega) (by omega) (by omega),w.2⟩,fun j hj h a w _=>?_,fun j hj h a w=>⟨w.1,?_⟩,fun j h w=>w.1.q.hb,fun h w=>w.1.q.hb,fun j h w=>(C.rd w.1.q).C.map,fun j h w=>w.1.zq⟩
  ·obtain⟨v,h',e1,rfl,c,w'⟩:=A7u (K:=K) A C t2 t4 (l0:=h2.next+1) (zq:=h0.next+3) (by omega) (by omega) (by omega) (e:=e) (by omega) hj w.1
   refine⟨_,h',e1,c.mono fun i a y=>?_,?_⟩
   ·have:=y.1;omega
   ·cases U:Auk X.S X.es[j]with
    | true=>
     rw[aN rfl];rw[U]at w';exact⟨w',by rw[Aj9 hj,w.2,U];simp⟩
    | false=>
     rw[aK (by simp)];rw[U]at w';exact⟨w',Bj1 hj a U⟩
  ·rw[Aj9 hj,w.2,a];rfl
 have V:Ext h2 (Bq TT 84 40 0 tm h2):=Gh;have I0:A4x F h0 (Bq TT 84 40 0 tm h2) (h2.next+1) tm B (h0.next+3) z false:=⟨Qt.ext (Y.trans V) hb,Gc,G3,V.at f (M.at t W),V.at f (M.at t J),V.at f gz⟩;refine Ok.Ak2 (K:=K) A (by omega) cl (by omega) C.sm gv f ⟨I0,rfl⟩ (fun p w=>⟨w.1.lp,?_⟩) fun p w=>⟨w.1.lp,?_⟩
 ·have w2:=w.2
  rw[cM]at w2;rw[w2];have D:=w.1.q.hb;have Z:=D _ _ w.1.lp;have E:Qt F h0 (p.put (h2.next+1) (As TT 84 40 0 tm .exhausted none h2.next)):=w.1.q.U6 ((Ar.refl (S:=fun i=>i=h2.next+1) p).Ak (.inl rfl) Z _) fun i a=>by omega
  have J:(p.put (h2.next+1) (As TT 84 40 0 tm .exhausted none h2.next)).get (h0.next+1)=some (.cells [.bool false] 4):=by rw[Af _ (by omega)];exact w.1.c4
  have gd:(p.put (h2.next+1) (As TT 84 40 0 tm .exhausted none h2.next)).get h2.next=some (.deferred true):=by rw[Af _ (by omega)];exact w.1.dd
  generalize p.put (h2.next+1) (As TT 84 40 0 tm .exhausted none h2.next)=h4 at E J gd⊢;have l4:=E.hb _ _ J;simp only[U9,dr];refine Ok.Zl J rfl rfl (by show 0<1;decide) ?_;have q5:Qt F h0 (h4.put (h0.next+1) (.cells ([EV.bool false].set 0 (.bool true)) 4)):=E.U6 ((Ar.refl (S:=fun i=>i=h0.next+1) h4).Ak (.inl rfl) l4 _) fun i a=>by omega
  refine Ok.unwind (cQ.2 ⟨by simp,cj⟩) (fun d hd=>by rw[aO]at hd;subst hd;rw[Af _ (by omega)];exact gd) q5.hb fun h6 O _=>?_
  have g6:h6.get (h0.next+1)=some (.cells [.bool true] 4):=Ar.at O q5.hb (Ae _ _ _) (by rw[aO];omega);rw[Ajs g6];exact .ret ⟨rfl,q5.U6 O fun i a=>by rw[aO]at a;omega⟩
 ·rw[w.2]
  have D:=w.1.q.hb;have Z:=D _ _ w.1.lp;have E:Qt F h0 (p.put (h2.next+1) (As TT 84 40 0 tm .exhausted (some .ret) h2.next)):=w.1.q.U6 ((Ar.refl (S:=fun i=>i=h2.next+1) p).Ak (.inl rfl) Z _) fun i a=>by omega
  refine Ok.unwind (cQ.2 ⟨by simp,cj⟩) (fun d hd=>by rw[aO]at hd;subst hd;rw[Af _ (by omega)];exact w.1.dd) E.hb fun h6 O _=>?_
  have g6:h6.get (h0.next+1)=some (.cells [.bool false] 4):=Ar.at O E.hb (by rw[Af _ (by omega)];exact w.1.c4) (by rw[aO];omega);rw[Ajs g6];exact .ret ⟨rfl,E.U6 O fun i a=>by rw[aO]at a;omega⟩
end
end
section
def blN(z:Int)(es:List Me)(j:Nat):List Nat:=(List.range j).filter fun i=>inB z ((es[i]?).getD (Me.nil 0))
theorem Bog {z:Int}(hj:j<es.length)(h:inB z es[j]=true):blN z es (j+1)=blN z es j++[j]:=by
 unfold blN;rw[cz,eF,eh,aH hj];simp[h]
theorem Bps {z:Int}(hj:j<es.length)(h:inB z es[j]=false):blN z es (j+1)=blN z es j:=by
 unfold blN;rw[cz,eF,eh,aH hj];simp[h]
theorem Bkj(z:Int)(es:List Me)(j:Nat):(blN z es j).length<=j:=by
 unfold blN;have:=eG (fun i=>inB z ((es[i]?).getD (Me.nil 0))) (List.range j);simpa using this
def nI(i:Nat):EV:=I (i:Int)
structure A9p(F:Nat->Prop)(h0 h:Ab)(l0:Nat)(tm:Ax)(zq:Nat)(z:Int)(L:List Nat):Prop where
 q:Qt F h0 h
 lp:h.get l0=some (As TT 144 19 0 tm .ready none (l0-1))
 dd:h.get (l0-1)=some (.deferred true)
 zq:h.get zq=some (.cells [I z] 3)
 row:∃s qr,h.get h0.next=some (.cells [s] 28)/\Ci h s qr 3 1 L.length (L.map nI)/\(0<L.length->l0+5<=qr)
theorem A9p.chg{z:Int}(w:A9p F h0 h l0 tm zq z L)(c:Ar T h h')(t:∀i,T i->l0<i/\i<l0+5)(l:h0.next<l0)(lz:zq<l0):A9p F h0 h' l0 tm zq z L:=by
 have kp:∀i o,h.get i=some o->i<=l0->h'.get i=some o:=fun i o g a=>c.at w.q.hb g fun y=>by have:=t i y;omega
 obtain⟨s,qr,u,f,p⟩:=w.row;exact⟨w.q.U6 c fun i a=>by have:=t i a;omega,kp _ _ w.lp (aC _),kp _ _ w.dd (by omega),kp _ _ w.zq (by omega),s,qr,kp _ _ u (by omega),f.frame fun y=>c.get _ (w.q.hb _ _ (f.block y)) fun v=>by have:=t _ v;have:=p y;omega,p⟩
theorem Bpd:(Dt TT 144 0).2.1 = [13]:=by kernel_rfl
section
variable (A:Ca disp)(hK:10000<K)
include A
theorem A32{z:Int}(t5:tmp tm 5=.ptr h0.next 0)(l:h0.next+1<l0)(lz:zq<l0)(nz:h0.next<zq)(he:2<=e)(hL:L.length<=256)(nx:l0+5<=h.next)(t:A9p F h0 h l0 tm zq z L):
 Ok (Ag TT disp K e true l0 [I j] h) fun v h'=>v=.bool true/\Ar (fun i=>¬(l0<i/\i<l0+5)) h h'/\A9p F h0 h' l0 tm zq z (L++[j]):=by
 obtain⟨e,rfl⟩:∃k,e=k+1:=⟨e-1,by omega⟩;have P:=t.lp;have p:=P;unfold As at p;rw[Bpd]at p;rw[Ajn A (by omega) tm h (I j) p,t5];have hb:=t.q.hb;have U:=hb _ _ P;simp only[Ac9,Qo P,Vv,dr];obtain⟨s,qr,r1,r2,O⟩:=t.row;have c1:Ar (fun i=>i=l0) h (h.put l0 (As TT 144 19 0 tm .busy none (l0-1))):=(Ar.refl (S:=fun i=>i=l0) h).Ak (.inl rfl) U _;have V:(h.put l0 (As TT 144 19 0 tm .busy none (l0-1))).get l0=some (As TT 144 19 0 tm .busy none (l0-1)):=Ae _ _ _;have kp:∀i o,h.get i=some o->i≠l0->(h.put l0 (As TT 144 19 0 tm .busy none (l0-1))).get i=some o:=fun i o g f=>by rw[Af _ (cN f)];exact g
 have gd:=kp _ _ t.dd (by omega);have W:=kp _ _ r1 (by omega);have gz:=kp _ _ t.zq (by omega);have rr:=r2.frame (h':=h.put l0 (As TT 144 19 0 tm .busy none (l0-1))) fun y=>Af _ (by have:=O y;omega)
 have Y:(h.put l0 (As TT 144 19 0 tm .busy none (l0-1))).next=h.next:=rfl
 have u:Qt F h0 (h.put l0 (As TT 144 19 0 tm .busy none (l0-1))):=t.q.U6 c1 fun i f=>by omega
 clear kp;generalize h.put l0 (As TT 144 19 0 tm .busy none (l0-1))=D at c1 V gd W gz rr Y u⊢;rw[Aj W rfl (v:=s) rfl];refine N9 (z:=[.int .i64 0]) (v:=I j) rr u.hb rfl rfl rfl (by omega) (by omega) fun h2 E ae c2=>?_
 have G:=c2.hb u.hb;have J:∀i o,D.get i=some o->i<=l0->h2.get i=some o:=fun i o g f=>c2.at u.hb g fun y=>by have:=O y.1;omega
 have M:=J _ _ W (by omega);have l5:=G _ _ M;have Z:=G _ _ (J _ _ V (aC _));refine Ok.Zl M rfl rfl (by show 0<1;decide) ?_;rw[Js (by rw[Af _ (by omega)];exact J _ _ V (aC _))];have c3:Ar (fun i=>i=l0\/i=h0.next) h2 ((h2.put h0.next (.cells ([s].set 0 (.slice (D.next+1) 0 (L.length+1) (L.length+1) true)) 28)).put l0 (As TT 144 19 0 tm .ready none (l0-1))):=((Ar.refl h2).Ak (.inl (.inr rfl)) l5 _).Ak (.inl (.inl rfl)) Z _;have same:∀i,i≠l0->i≠h0.next->((h2.put h0.next (.cells ([s].set 0 (.slice (D.next+1) 0 (L.length+1) (L.length+1) true)) 28)).put l0 (As TT 144 19 0 tm .ready none (l0-1))).get i=h2.get i:=fun i a b=>by rw[Af _ (cN a),Af _ (cN b)]
 refine .ret ⟨rfl,?_,?_,?_,?_,?_,?_⟩
 ·refine((c1.mono fun i f y=>?_).trans (c2.mono fun i f y=>?_)).trans (c3.mono fun i f y=>?_)
  ·omega
  ·have:=O f.1;omega
  ·omega
 ·refine(u.U6 c2 fun i f=>?_).U6 c3 fun i f=>by omega
  have:=O f.1;omega
 ·exact Ae _ _ _
 ·rw[same _ (by omega) (by omega)];exact J _ _ gd (by omega)
 ·rw[same _ (by omega) (by omega)];exact J _ _ gz (by omega)
 ·refine⟨.slice (D.next+1) 0 (L.length+1) (L.length+1) true,D.next+1,?_,?_,fun _=>by omega⟩
  ·rw[Af _ (by omega)];exact Ae _ _ _
  ·rw[aF,cB]
   exact Ci.frame E fun _=>same _ (by omega) (by omega)
include hK
theorem Beb(C:Eb h0 B X F)(hd:8<=d)(z:Int):Ok (Ag TT disp K d false 144 [.ptr B.c 0,I z] h0) fun v h'=>Qt F h0 h'/\∃qr,Ci h' v qr 3 1 (blN z X.es X.es.length).length ((blN z X.es X.es.length).map nI)/\(0<(blN z X.es X.es.length).length->h0.next<=qr):=by
 obtain⟨e,rfl⟩:∃k,d=k+3+1:=⟨d-4,by omega⟩;rw[Ant A (by omega)];simp only[Aj3,Aa];have hb:=C.hb;have G:Ext h0 (h0.new (.cells [.Ao] 28)):=Ar.new _ _;have t:(h0.new (.cells [.Ao] 28)).next=h0.next+1:=rfl
 have u:(h0.new (.cells [.Ao] 28)).get h0.next=some (.cells [.Ao] 28):=Ac _ _
 generalize h0.new (.cells [.Ao] 28)=f at G t u⊢;have D:=G.hb hb;have C1:=(C.toE G).C;rw[C1.ldB];simp only[Pc,Aa,I];have J:Ext f ((f.new (.cells [.ptr B.b 0] 49)).new (.cells [.int .i64 z] 3)):=(Ar.new _ _).Di _;have n2:((f.new (.cells [.ptr B.b 0] 49)).new (.cells [.int .i64 z] 3)).next=h0.next+3:=by rw[Ab.Cv,Ab.Cv,t]
 have W:((f.new (.cells [.ptr B.b 0] 49)).new (.cells [.int .i64 z] 3)).get (h0.next+1)=some (.cells [.ptr B.b 0] 49):=by rw[<-t,Ay _ (aE _)];exact Ac _ _
 have Y:((f.new (.cells [.ptr B.b 0] 49)).new (.cells [.int .i64 z] 3)).get (h0.next+2)=some (.cells [I z] 3):=by rw[show h0.next+2=(f.new (.cells [.ptr B.b 0] 49)).next by rw[Ab.Cv,t]];exact Ac _ _
 rw[show(f.new (.cells [.ptr B.b 0] 49)).next=h0.next+2 by rw[Ab.Cv,t],t];generalize (f.new (.cells [.ptr B.b 0] 49)).new (.cells [.int .i64 z] 3)=h2 at J n2 W Y⊢;have o:=J.hb D;have O:Ext h0 h2:=G.trans J;generalize E:(((((((((Tr.nil.put 0 (some (EV.ptr B.c 0))).put 1 (some (EV.int .i64 z))).put 4 (some EV.Ao)).put 5 (some (EV.ptr h0.next 0))).put 7 (some (EV.ptr B.c 0))).put 8 (some (EV.ptr B.c 0))).put 9 (some (EV.ptr B.c 2))).put 10 (some (EV.ptr B.b 0))).put 11 (some (EV.int .i64 z))).put 12 (some (EV.func 80 [] [EV.ptr (h0.next+1) 0,EV.ptr (h0.next+2) 0]))=tm;have t5:tmp tm 5=.ptr h0.next 0:=by rw[<-E];simp only[Ei,reduceIte,Nat.reduceEqDiff]
 clear E;have nl:h2.next+1=h0.next+4:=by omega
 have hlen:=C.map.len;have:=C.sm.b0;have:=C.sm.b1;have cl:Bfh disp K e (h2.next+1) (h0.next+2) B.b B.ml B.ll X.S.g X.es z (h2.next+2) (fun j h=>A9p F h0 h (h2.next+1) tm (h0.next+2) z (blN z X.es j)/\j<=X.es.length) (fun h=>False):=by
  refine⟨fun j h h' w c=>⟨w.1.chg c (fun i a=>by have:=a.1;have:=a.2;omega) (by omega) (by omega),w.2⟩,fun h h' w c=>w.elim,fun j hj h a w nx=>?_,fun j hj h a w=>⟨by rw[Bps hj a];exact w.1,hj⟩,fun j h w=>w.1.q.hb,fun h w=>w.elim,fun j h w=>(C.rd w.1.q).C.map,fun j h w=>w.1.zq⟩;have bl:=Bkj z X.es j;obtain⟨v,h',e1,rfl,c,w'⟩:=A32 (K:=K) A t5 (l0:=h2.next+1) (zq:=h0.next+2) (by omega) (by omega) (by omega) (e:=e) (by omega) (j:=j) (by omega) (by omega) w.1;refine⟨true,h',e1,c.mono fun i a y=>a ⟨by have:=y.1;omega,by have:=y.2;omega⟩,?_⟩;rw[aN rfl,Bog hj a];exact⟨w',hj⟩
 have P:Ext h2 (Bq TT 144 19 0 tm h2):=Gh;have I0:A9p F h0 (Bq TT 144 19 0 tm h2) (h2.next+1) tm (h0.next+2) z (blN z X.es 0):=⟨Qt.ext (O.trans P) hb,Gc,G3,P.at o Y,.Ao,0,P.at o (J.at D u),Ci.nil _ _ _ _,fun y=>absurd y (bS 0)⟩;refine Ok.Ak2 (K:=K) A (by omega) cl (by omega) C.sm W o ⟨I0,cU _⟩ (fun p w=>⟨w.1.lp,?_⟩) fun p w=>w.elim
 obtain⟨w,_⟩:=w;obtain⟨s,qr,r1,r2,U⟩:=w.row;have V:=w.q.hb;have l3:=V _ _ w.lp;have M:Qt F h0 (p.put (h2.next+1) (As TT 144 19 0 tm .exhausted none h2.next)):=w.q.U6 ((Ar.refl (S:=fun i=>i=h2.next+1) p).Ak (.inl rfl) l3 _) fun i a=>by omega
 have u:(p.put (h2.next+1) (As TT 144 19 0 tm .exhausted none h2.next)).get h0.next=some (.cells [s] 28):=by rw[Af _ (by omega)];exact r1
 have gd:(p.put (h2.next+1) (As TT 144 19 0 tm .exhausted none h2.next)).get h2.next=some (.deferred true):=by rw[Af _ (by omega)];exact w.dd
 have rr:=r2.frame (h':=p.put (h2.next+1) (As TT 144 19 0 tm .exhausted none h2.next)) fun y=>Af _ (by have:=U y;omega)
 generalize p.put (h2.next+1) (As TT 144 19 0 tm .exhausted none h2.next)=h4 at M u gd rr⊢;simp only[Ua,dr];rw[Aj u rfl (v:=s) rfl];refine Ok.unwind (cQ.2 ⟨by simp,cj⟩) (fun d hd=>by rw[aO]at hd;subst hd;exact gd) M.hb fun h6 Z _=>?_
 exact .ret ⟨M.U6 Z fun i a=>by rw[aO]at a;omega,qr,rr.frame fun y=>Z.get _ (M.hb _ _ (rr.block y)) fun y'=>by rw[aO]at y';have:=U y;omega,fun y=>by have:=U y;omega⟩
end
end
section
def Co.live(X:Co)(z:Int):Int:=Afm X.S.g X.es z
def Co.Avi(X:Co)(z:Int):Bool:=X.closed z&&(decide (2*X.live z<=X.S.g.S)&&T6 X.S z X.es)
def Co.Is(X:Co):Nat->Int
 | 0=>-1
 | i+1=>if X.Avi i=true/\(X.Is i = -1\/X.live i<X.live (X.Is i))then i else X.Is i
theorem Co.Axs(X:Co):∀n,-1<=X.Is n/\X.Is n<n
 | 0=>by unfold Co.Is;omega
 | n+1=>by
  have:=X.Axs n;unfold Co.Is;split<;>omega
theorem A3e(a:X.es.length<=256)(z:Int):0<=X.live z/\X.live z<=256:=by
 unfold Co.live Afm;split
 ·have:=As4 z X.es;omega
 ·omega
theorem Eb.A78(C:Eb h B X F):X.es.length<=256:=by
 have:=C.map.len;have:=C.sm.b1;have:=C.sm.b0;omega
theorem Beo(A:Ca disp)(hK:10000<K)(hn:X.S.g.D*X.S.g.Z=n)(hd:8<=d):∀(f i:Nat) (h:Ab),n-i<f->i<=n->Eb h B X F ->
 Ok (Im (Ag TT disp K d false) (Ag TT disp K d true) K f (.ptr B.c 0) (I (X.Is i)) (I n) (I i) h) fun v h'=>v=I (X.Is n)/\Qt F h h':=by
 intro f;induction f with
 | zero=>intro i h Y;omega
 | succ f ih=>
  intro i h Y hi C;have bd:=C.sm.Wj;have U:=C.A78;rw[Im];simp only[I,Ad];by_cases ab:i<n
  ·have:decide ((i:Int)<(n:Int))=true:=by simp;omega
   simp only[this,Aa,Ads];rw[C.ldB];have ml:=Vl (K:=K) C.map i;simp only[I]at ml;rw[ml,Au];refine(Vp A hK C hd (z:=i) ⟨by omega,by omega⟩).Ap ?_;rintro _ h2 ⟨rfl,O⟩;have G:=(C.rd O).C;have nx:∀h' b,Qt F h h'->b=X.Is (i+1)->Ok (Oe (Ag TT disp K d false) (Ag TT disp K d true) K (Im (Ag TT disp K d false) (Ag TT disp K d true) K f) (.ptr B.c 0) (.int .i64 b) (.int .i64 (n:Int)) (.int .i64 (i:Int)) h') fun v h'=>v=I (X.Is n)/\Qt F h h':=by
    intro h' b q hb;subst hb;simp only[Oe,Ad];rw[Cn (by omega) (by omega),show((i:Nat):Int)+1=((i+1:Nat):Int) by omega];refine(ih (i+1) h' (by omega) (by omega) (C.rd q).C).mono ?_;rintro v t ⟨a,u⟩;exact⟨a,q.trans u⟩
   have no:X.Avi i=false->X.Is i=X.Is (i+1):=fun E=>by
    rw[show X.Is (i+1)=if X.Avi i=true/\(X.Is i = -1\/X.live i<X.live (X.Is i))then(i:Int)else X.Is i from rfl,aK (by rw[E];simp)]
   have lb:=A3e U i;have vb:=X.Axs i;have ad:=A3e U (X.Is i);have ae:Fj (.tuple []) false=false/\Fj (.tuple []) true=false:=⟨rfl,rfl⟩;unfold Co.Avi at no;show Ok (Afz (.bool (X.closed i)) _) _;cases E:X.closed i with
   | false=>
    simp only[Aa,Ad,Of,Kx];exact nx _ _ O (no (by rw[E,aX]))
   | true=>
   simp only[Aa,Ad];rw[G.ldM];refine(Nj (K:=K) G.M G.hb).Ap ?_;rintro _ t ⟨rfl,x3⟩;have u:=O.trans (Qt.ext x3 G.hb);have C3:=(C.rd u).C;unfold gV;rw[Arv (v:=I X.S.g.S) rfl];simp only[I,Ad];have hL:Afm X.S.g X.es i=X.live i:=rfl;rw[hL,Cn (by omega) (by omega)];by_cases h2:X.S.g.S<2*X.live i
   ·simp only[h2,aB,Aa,Ad,Of,Kx]
    exact nx _ _ u (no (by rw[E,aQ (by omega)];rfl))
   simp only[h2,aA,Aa,Ad,Of];have V:=Bgd (K:=K) A hK C3 (d:=d) hd i;simp only[I]at V;refine V.Ap ?_;rintro _ h4 ⟨rfl,p⟩;have p:=u.trans p;have W:=(C.rd p).C;cases hw:T6 X.S i X.es with
   | false=>
    simp only[Aa,Ad,Kx];exact nx _ _ p (no (by rw[hw,cn,cn]))
   | true=>
   simp only[Aa,Ad,Kx,Ach];have o:X.Avi i=true:=by unfold Co.Avi;rw[E,hw,aP (by omega)];rfl
   by_cases J:X.Is i = -1
   ·simp only[J,aB,Aa,Ad,Ub]
    exact nx _ _ p (by rw[show X.Is (i+1)=if X.Avi i=true/\(X.Is i = -1\/X.live i<X.live (X.Is i))then(i:Int)else X.Is i from rfl,aN ⟨o,.inl J⟩])
   simp only[J,aA,Aa,Ad];rw[W.ldB];have ml:=Vl (K:=K) W.map (X.Is i);simp only[I]at ml;rw[ml,Au];simp only[Ad,Ub];have P:Afm X.S.g X.es (X.Is i)=X.live (X.Is i):=rfl;rw[P];by_cases t:X.live i<X.live (X.Is i)
   ·simp only[t,aB,Aa,Ad]
    exact nx _ _ p (by rw[show X.Is (i+1)=if X.Avi i=true/\(X.Is i = -1\/X.live i<X.live (X.Is i))then(i:Int)else X.Is i from rfl,aN ⟨o,.inr t⟩])
   ·simp only[t,aA,Aa,Ad]
    exact nx _ _ p (by rw[show X.Is (i+1)=if X.Avi i=true/\(X.Is i = -1\/X.live i<X.live (X.Is i))then(i:Int)else X.Is i from rfl,aK fun y=>y.2.elim J t])
  ·have:decide ((i:Int)<(n:Int))=false:=by simp;omega
   have:i=n:=by omega
   subst this;simp only[Int.lt_irrefl,aA,Aa,Aco];exact .ret ⟨rfl,Qt.refl C.hb⟩
theorem A03(A:Ca disp)(hK:10000<K)(C:Eb h B X F)(hd:9<=d):Ok (Ag TT disp K d false 28 [.ptr B.c 0] h) fun v h'=>v=I (X.Is (X.S.g.D*X.S.g.Z).toNat)/\Qt F h h':=by
 obtain⟨e,rfl⟩:∃k,d=k+1:=⟨d-1,by omega⟩;rw[Ane A (by omega)];simp only[Aju,Aa];rw[C.ldM];refine An0 A C fun h2 f=>?_
 have bd:=C.sm.Wj;obtain⟨n,o⟩:=bD (show 0<=X.S.g.D*X.S.g.Z by omega);rw[o,bK];refine(Beo A hK o (d:=e) (by omega) K 0 h2 (by omega) (by omega) (C.toE f).C).mono ?_;rintro v q ⟨a,p⟩;exact⟨a,(Qt.ext f C.hb).trans p⟩
end
structure Bkd(disp:Nat->Option FT)(K e l0 dq gq:Nat)(g:Gm)(d:Int)(Inv:Nat->Ab->Prop)(Stop:Ab->Prop):Prop where
 Dp:∀j:Nat,j<g.Z->∀h,Inv j h->∃more h',Ag TT disp K e true l0 [I (d*g.Z+j)] h=some (.bool more,h')/\(if more=true then Inv (j+1) h' else Stop h')
 dom:∀j h,Inv j h->h.get dq=some (.cells [I d] 3)
 geo:∀j h,Inv j h->h.get gq=some (.cells (gL g) 23)
theorem Bgs {dq:Nat}{d:Int}{Inv:Nat->Ab->Prop}(c:Bkd disp K e l0 dq gq g d Inv Stop)(s:Sm g)(d0:0<=d)(d1:d<g.D)(y:g.Z=n):∀(f j:Nat) (h:Ab),n-j<f->j<=n->Inv j h ->
 Ok (Nu (Ag TT disp K e false) (Ag TT disp K e true) K f (.Sy l0) (.ptr dq 0) (.ptr gq 0) (I n) (I j) h) fun v h'=>v=.tuple []/\(Inv n h'\/Stop h'):=by
 intro f;induction f with
 | zero=>intro j h p;omega
 | succ f q=>
  intro j h p hj o;have:=s.d1;have:=s.z1;have:=s.z0;obtain⟨E,G⟩:=N1 (a:=d) (b:=g.Z) (A:=8) (B:=64) (by omega) (by omega) (by omega) (by omega);rw[Nu];simp only[I,Ad];by_cases t:j<n
  ·have:decide ((j:Int)<(n:Int))=true:=by simp;omega
   simp only[this,Aa,Agv];rw[Aj (c.dom _ _ o) rfl (v:=I d) rfl,Aj (c.geo _ _ o) rfl (v:=I g.Z) rfl];simp only[I,Ad];rw[Cn (n:=d*g.Z) (by omega) (by omega),Cn (by omega) (by omega)];obtain⟨more,h2,e2,i2⟩:=c.Dp j (by omega) h o;have u:Rn (Ag TT disp K e false) (Ag TT disp K e true) (.Sy l0) [.int .i64 (d*g.Z+(j:Int))] h=some (.bool more,h2):=e2;rw[u,Au];cases more with
   | true=>
    rw[aN rfl]at i2;simp only[Aa,Ah5,Ad];rw[Cn (by omega) (by omega),show((j:Nat):Int)+1=((j+1:Nat):Int) by omega];exact q (j+1) h2 (by omega) (by omega) i2
   | false=>
    rw[aK (by simp)]at i2;simp only[Aa];exact .ret ⟨rfl,.inr i2⟩
  ·have:decide ((j:Int)<(n:Int))=false:=by simp;omega
   have:j=n:=by omega
   subst this;simp only[Int.lt_irrefl,aA,Aa];exact .ret ⟨rfl,.inl o⟩
theorem Boy(H:Ca disp)(hK:1000<K){dq:Nat}{d:Int}{Inv:Nat->Ab->Prop}(c:Bkd disp K e l0 dq gq g d Inv Stop)(he:1<=e)(s:Sm g)(f:Inv 0 h):
 Ok (Ag TT disp K (e+1) false 82 [.Sy l0,.ptr dq 0,.ptr gq 0] h) fun v h'=>v=.tuple []/\(if 0<=d/\d<g.D then Inv g.Z.toNat h'\/Stop h' else Inv 0 h'):=by
 have:=s.d1;have:=s.z1;have:=s.z0;have:=s.d0;rw[Ar4 H (by omega)];simp only[Ape,dr];rw[Aj (c.dom _ _ f) rfl (v:=I d) rfl];simp only[Aa];rw[Aj (c.geo _ _ f) rfl (v:=I g.D) rfl];simp only[I,Ad];rw[Cn (by omega) (by omega)];have w:=Wn (K:=K) d 0 (g.D-1) h;simp only[I]at w;rw[w,Au];have hw:wi d 0 (g.D-1)=decide (0<=d/\d<g.D):=by
  unfold wi;rw[<-Bool.decide_and];exact eK.2 (by omega)
 rw[hw];by_cases hd:0<=d/\d<g.D
 ·rw[aP hd]
  simp only[Aa,Ahr];rw[Aj (c.geo _ _ f) rfl (v:=I g.Z) rfl];obtain⟨n,o⟩:=bD (show 0<=g.Z by omega);rw[o];refine(Bgs (K:=K) c s hd.1 hd.2 o K 0 h (by omega) (by omega) f).mono ?_;rintro v h' ⟨a,y⟩;exact⟨a,by rw[aN hd,bK];exact y⟩
 ·rw[aQ hd]
  simp only[Aa];exact .ret ⟨rfl,by rw[aK hd];exact f⟩
theorem Ok.Bax(H:Ca disp)(hK:1000<K){dq:Nat}{d:Int}{Inv:Nat->Ab->Prop}{fn:Nat}{k:Ab->List Nat->R}{ret:Ab->List Nat->R}
 (c:Bkd disp K e (h.next+1) dq gq g d Inv Stop) (he:1<=e) (s:Sm g) (f:Inv 0 (Bq TT fn n i tm h))
 (a:∀h',(if 0<=d/\d<g.D then Inv g.Z.toNat h' else Inv 0 h')->h'.get (h.next+1)=some (As TT fn n i tm .ready none h.next)/\Ok (k (h'.put (h.next+1) (As TT fn n i tm .exhausted none h.next)) (h.next::ds)) Q)
 (o:∀h',Stop h'->h'.get (h.next+1)=some (As TT fn n i tm .done (some .ret) h.next)/\Ok (ret (h'.put (h.next+1) (As TT fn n i tm .exhausted (some .ret) h.next)) (h.next::ds)) Q) :
 Ok (Q2 (Ag TT disp K (e+1) false) TT fn n i (.func 82 [] [.ptr dq 0,.ptr gq 0]) tm h ds k ex ret) Q:=by
 refine Ok.range ((Boy (K:=K) H hK (h:=Bq TT fn n i tm h) c he s f).mono ?_);rintro _ h' ⟨rfl,y⟩;by_cases hd:0<=d/\d<g.D
 ·rw[aN hd]at y
  rcases y with y|y
  ·exact .inl (a h' (by rw[aN hd];exact y))
  ·exact .inr (o h' y)
 ·rw[aK hd]at y
  exact .inl (a h' (by rw[aK hd];exact y))
def Co.few(X:Co)(d:Int):Nat->Int
 | 0=>-1
 | j+1=>if X.closed (d*X.S.g.Z+j)=true/\(X.few d j = -1\/X.live (d*X.S.g.Z+j)<X.live (X.few d j))then d*X.S.g.Z+j else X.few d j
def Co.Aie(X:Co)(d:Int):Int:=if 0<=d/\d<X.S.g.D then X.few d X.S.g.Z.toNat else -1
structure Bda(F:Nat->Prop)(h0 h:Ab)(l0:Nat)(tm:Ax)(B:Cb)(g:Gm)(d:Int)(best:Int):Prop where
 q:Qt F h0 h
 lp:h.get l0=some (As TT 27 39 0 tm .ready none (l0-1))
 dd:h.get (l0-1)=some (.deferred true)
 c2:h.get h0.next=some (.cells [.ptr B.c 0] 26)
 c5:h.get (h0.next+1)=some (.cells [I best] 3)
 gq:h.get (l0-3)=some (.cells (gL g) 23)
 dq:h.get (l0-2)=some (.cells [I d] 3)
theorem Bp3:(Dt TT 27 0).2.1 = [14]:=by kernel_rfl
theorem Eb.lift(C:Eb h B X F):Eb h.lift B X F:=
 ⟨C.M.same (Aot.lift _),by rw[By];exact C.core,by rw[By];exact C.ar,C.map.frame (By _ _) (By _ _) (By _ _),C.wf,C.out,Du C.hb⟩
theorem Qt.big{a h2:Ab}(q:Qt F h.lift a)(sm:Aot a h2)(c:Ar (fun i=>¬F i) h h2):Qt F h h2:=
 ⟨⟨_,⟨c,fun i f=>by rw[sm.get,q.same f,By]⟩,fun _ y=>y⟩,sm.hb q.hb⟩
section
variable (A:Ca disp)(hK:10000<K)(C:Eb h0 B X F)
include A hK C
theorem Bdy(t2:tmp tm 2=.ptr h0.next 0)(t5:tmp tm 5=.ptr (h0.next+1) 0)(l:h0.next+4<l0)(he:10<=e){d z best best':Int}(hz:Tk z)(D:best'=if X.closed z=true/\(best = -1\/X.live z<X.live best)then z else best)(J:Bda F h0 h l0 tm B X.S.g d best):
 Ok (Ag TT disp K e true l0 [I z] h) fun v h'=>v=.bool true/\Bda F h0 h' l0 tm B X.S.g d best':=by
 obtain⟨e,rfl⟩:∃k,e=k+1:=⟨e-1,by omega⟩;have hg:=J.lp;have P:=hg;unfold As at P;rw[Bp3]at P;rw[Aja A (by omega) tm h (I z) P,t2,t5];have hb:=J.q.hb;have af:=hb _ _ hg;simp only[Ac1,Qo hg,V7,dr];have kp:∀i o,h.get i=some o->i≠l0->(h.put l0 (As TT 27 39 0 tm .busy none (l0-1))).get i=some o:=fun i o g U=>by rw[Af _ (cN U)];exact g
 have V:(h.put l0 (As TT 27 39 0 tm .busy none (l0-1))).get l0=some (As TT 27 39 0 tm .busy none (l0-1)):=Ae _ _ _;have gd:=kp _ _ J.dd (by omega);have M:=kp _ _ J.c2 (by omega);have O:=kp _ _ J.c5 (by omega);have gg:=kp _ _ J.gq (by omega);have gq:=kp _ _ J.dq (by omega);have W:Qt F h0 (h.put l0 (As TT 27 39 0 tm .busy none (l0-1))):=J.q.U6 ((Ar.refl (S:=fun i=>i=l0) h).Ak (.inl rfl) af _) fun i U=>by omega
 clear kp;generalize h.put l0 (As TT 27 39 0 tm .busy none (l0-1))=h1 at V gd M O gg gq W⊢;have C1:=(C.rd W).C;have l2:=W.hb _ _ M;have l5:=W.hb _ _ O;have lc:=C1.hb _ _ C1.core;rw[Auq,Ah l2 (by kernel_rfl),Aj M rfl (v:=.ptr B.c 0) rfl];simp only[Aw];refine Ok.Yh (S:=fun i=>¬F i) (by kernel_rfl) (by kernel_rfl) (fun _=>by kernel_rfl) (Vp A hK C1.lift (d:=e) (by omega) hz) (fun _ _ p=>p.2.chg) ?_;rintro _ ax h2 s' ⟨rfl,ah⟩ sm c2 t;have Y:Qt F h1 h2:=ah.big sm c2;have E:=W.trans Y;have C2:=(C.rd E).C;have f:∀{i o},h1.get i=some o->h2.get i=some o:=fun g=>Y.at C1.hb g
 have ay:Fj (.tuple []) false=false/\Fj (.tuple []) true=false:=⟨rfl,rfl⟩;have fin:∀(bs:Nat) (s:DX) (b:Bool),b=decide (best'=z/\(X.closed z=true/\(best = -1\/X.live z<X.live best)))->(b=false->best'=best)->Ok (El (Ag TT disp K e false) (Ag TT disp K e true) K l0 bs s (.ptr (h0.next+1) 0) (I z) (.bool true) (.bool b) h2) fun v h'=>v=.bool true/\Bda F h0 h' l0 tm B X.S.g d best':=fun bs s b e1 e2=>by
  have G:=Y.hb _ _ (f V);have aj:=Y.hb _ _ (f O);cases b with
  | true=>
   have al:=(cP e1.symm).1;simp only[El,Aa,Ad];refine Ok.Zl (f O) rfl rfl (by show 0<1;decide) ?_;rw[Js (by rw[Af _ (by omega)];exact f V)];have kk:∀i,i≠l0->i≠h0.next+1->((h2.put (h0.next+1) (.cells ([I best].set 0 (I z)) 3)).put l0 (As TT 27 39 0 tm .ready none (l0-1))).get i=h2.get i:=fun i a b=>by rw[Af _ (cN a),Af _ (cN b)]
   refine .ret ⟨rfl,E.U6 (((Ar.refl (S:=fun i=>h0.next<=i) h2).Ak (.inl (by omega)) aj _).Ak (.inl (by omega)) G _) (fun i U=>U),Ae _ _ _,?_,?_,?_,?_,?_⟩
   ·rw[kk _ (by omega) (by omega)];exact f gd
   ·rw[kk _ (by omega) (by omega)];exact f M
   ·rw[Af _ (by omega),al];exact Ae _ _ _
   ·rw[kk _ (by omega) (by omega)];exact f gg
   ·rw[kk _ (by omega) (by omega)];exact f gq
  | false=>
   rw[e2 rfl];simp only[El,Aa,Ad];rw[Js (f V)];exact .ret ⟨rfl,E.U6 ((Ar.refl (S:=fun i=>i=l0) h2).Ak (.inl rfl) G _) (fun i U=>by omega),Ae _ _ _,by rw[Af _ (by omega)];exact f gd,by rw[Af _ (by omega)];exact f M,by rw[Af _ (by omega)];exact f O,by rw[Af _ (by omega)];exact f gg,by rw[Af _ (by omega)];exact f gq⟩
 cases Z:X.closed z with
 | false=>
  have ao:best'=best:=by rw[D,aK (by rw[Z];simp)]
  have G:=Y.hb _ _ (f V);rw[ao];simp only[Aa,Ad,I5,Iz,El];rw[Js (f V)];exact .ret ⟨rfl,E.U6 ((Ar.refl (S:=fun i=>i=l0) h2).Ak (.inl rfl) G _) (fun i U=>by omega),Ae _ _ _,by rw[Af _ (by omega)];exact f gd,by rw[Af _ (by omega)];exact f M,by rw[Af _ (by omega)];exact f O,by rw[Af _ (by omega)];exact f gg,by rw[Af _ (by omega)];exact f gq⟩
 | true=>
 simp only[Aa,Ad];rw[Ah l5 (by rcases t with rfl|⟨w,rfl,_⟩<;>kernel_rfl),Aj (f O) rfl (v:=I best) rfl];simp only[I,Ad];by_cases u:best = -1
 ·have:=fun bs s=>fin bs s true (by rw[eq_comm,dD];exact⟨by rw[D,aN ⟨Z,.inl u⟩],Z,.inl u⟩) (fun y=>by cases y)
  simp only[u,aB,Aa,Ad,I5,Iz];simp only[El,Aa,Ad,I]at this;simp only[El,Aa,Ad];exact this 0 ⟨0,[],[],[],[]⟩
 simp only[u,aA,Aa,Ad,I5];rw[Ah l2 (by rcases t with rfl|⟨w,rfl,_⟩<;>kernel_rfl),Aj (f M) rfl (v:=.ptr B.c 0) rfl];simp only[Aa];rw[Ah lc (by rcases t with rfl|⟨w,rfl,_⟩<;>kernel_rfl),C2.ldB];have ml:=Vl (K:=K) C2.lift.map;simp only[I]at ml;rw[Ji (by rcases t with rfl|⟨w,rfl,_⟩<;>kernel_rfl) (by rcases t with rfl|⟨w,rfl,_⟩<;>kernel_rfl) (ml z)];rw[Ah l2 (by rcases t with rfl|⟨w,rfl,_⟩<;>kernel_rfl),Aj (f M) rfl (v:=.ptr B.c 0) rfl];simp only[Aa];rw[Ah lc (by rcases t with rfl|⟨w,rfl,_⟩<;>kernel_rfl),C2.ldB];rw[Ah l5 (by rcases t with rfl|⟨w,rfl,_⟩<;>kernel_rfl),Aj (f O) rfl (v:=I best) rfl];simp only[I];rw[Ji (by rcases t with rfl|⟨w,rfl,_⟩<;>kernel_rfl) (by rcases t with rfl|⟨w,rfl,_⟩<;>kernel_rfl) (ml best)];simp only[Ad,Iz,Aa];by_cases h3:X.live z<X.live best
 ·have:=fun bs s=>fin bs s true (by rw[eq_comm,dD];exact⟨by rw[D,aN ⟨Z,.inr h3⟩],Z,.inr h3⟩) (fun y=>by cases y)
  have e3:decide (Afm X.S.g X.es z<Afm X.S.g X.es best)=true:=aP h3;simp only[e3];exact this _ _
 ·have ne:¬(X.closed z=true/\(best = -1\/X.live z<X.live best)):=fun y=>y.2.elim u h3
  have:=fun bs s=>fin bs s false (by rw[eq_comm,cS];exact fun y=>ne y.2) (fun _=>by rw[D,aK ne])
  have e3:decide (Afm X.S.g X.es z<Afm X.S.g X.es best)=false:=aQ h3;simp only[e3];exact this _ _
theorem Bar(hd:11<=dp){d:Int}(hr : -9<=d/\d<=9):Ok (F27 (Ag TT disp K dp false) (Ag TT disp K dp true) K [.ptr B.c 0,I d] h0) fun v h'=>v=I (X.Aie d)/\Qt F h0 h':=by
 obtain⟨e,rfl⟩:∃k,dp=k+1:=⟨dp-1,by omega⟩;rw[Arf A (by omega)];simp only[Aj1,Aa];have hb:=C.hb;rw[show(h0.new (.cells [.ptr B.c 0] 26)).next=h0.next+1 from rfl];refine Ok.Zl (Ac _ _) rfl rfl (by show 0<1;decide) ?_;have J:Ext h0 (((h0.new (.cells [.ptr B.c 0] 26)).new (.cells [.int .i64 0] 3)).put (h0.next+1) (.cells ([EV.int .i64 0].set 0 (.int .i64 (-1))) 3)):=((Ar.new _ _).Di _).Ak (.inr (by omega)) (by show h0.next+1<h0.next+2;omega) _;have n1:(((h0.new (.cells [.ptr B.c 0] 26)).new (.cells [.int .i64 0] 3)).put (h0.next+1) (.cells ([EV.int .i64 0].set 0 (.int .i64 (-1))) 3)).next=h0.next+2:=rfl
 have O:(((h0.new (.cells [.ptr B.c 0] 26)).new (.cells [.int .i64 0] 3)).put (h0.next+1) (.cells ([EV.int .i64 0].set 0 (.int .i64 (-1))) 3)).get h0.next=some (.cells [.ptr B.c 0] 26):=by rw[Af _ (by omega),Ay _ (aE _)];exact Ac _ _
 have y:(((h0.new (.cells [.ptr B.c 0] 26)).new (.cells [.int .i64 0] 3)).put (h0.next+1) (.cells ([EV.int .i64 0].set 0 (.int .i64 (-1))) 3)).get (h0.next+1)=some (.cells [I (-1)] 3):=Ae _ _ _;generalize ((h0.new (.cells [.ptr B.c 0] 26)).new (.cells [.int .i64 0] 3)).put (h0.next+1) (.cells ([EV.int .i64 0].set 0 (.int .i64 (-1))) 3)=h1 at J n1 O y⊢;have p:=J.hb hb;have P:=(C.toE J).C;rw[Aj O rfl (v:=.ptr B.c 0) rfl];simp only[Aa];rw[P.ldM];refine(Nj (K:=K) P.M P.hb).Ap ?_;rintro _ h2 ⟨rfl,U⟩;have V:=U.hb p;simp only[Tb,Aa,I,gV];have W:Ext h2 ((h2.new (.cells (gL X.S.g) 23)).new (.cells [.int .i64 d] 3)):=(Ar.new _ _).Di _;have n3:((h2.new (.cells (gL X.S.g) 23)).new (.cells [.int .i64 d] 3)).next=h2.next+2:=rfl
 have gg:((h2.new (.cells (gL X.S.g) 23)).new (.cells [.int .i64 d] 3)).get h2.next=some (.cells (gL X.S.g) 23):=by rw[Ay _ (aE _)];exact Ac _ _
 have gd:((h2.new (.cells (gL X.S.g) 23)).new (.cells [.int .i64 d] 3)).get (h2.next+1)=some (.cells [I d] 3):=Ac _ _;rw[show(h2.new (.cells (gL X.S.g) 23)).next=h2.next+1 from rfl];generalize (h2.new (.cells (gL X.S.g) 23)).new (.cells [.int .i64 d] 3)=f at W n3 gg gd⊢;have o:=W.hb V;have t:Ext h1 f:=U.trans W;generalize u:((((((((((((Tr.nil.put 0 (some (EV.ptr B.c 0))).put 1 (some (EV.int .i64 d))).put 2 (some (EV.ptr h0.next 0))).put 4 (some (EV.int .i64 0))).put 5 (some (EV.ptr (h0.next+1) 0))).put 7 (some (EV.ptr B.c 0))).put 8 (some (EV.ptr B.c 0))).put 9 (some (EV.ptr B.c 0))).put 10 (some (EV.ptr B.m 0))).put 11 (some (EV.agg (gL X.S.g)))).put 12 (some (EV.int .i64 d))).put 13 (some (EV.func 82 [] [EV.ptr (h2.next+1) 0,EV.ptr h2.next 0])))=tm;have t2:tmp tm 2=.ptr h0.next 0:=by rw[<-u];simp only[Ei,reduceIte,Nat.reduceEqDiff]
 have t5:tmp tm 5=.ptr (h0.next+1) 0:=by rw[<-u];simp only[Ei,reduceIte,Nat.reduceEqDiff]
 clear u;have ag:=U.next
 have:=C.sm.d1;have:=C.sm.z1;have:=C.sm.z0;have cl:Bkd disp K e (f.next+1) (h2.next+1) h2.next X.S.g d (fun j h=>Bda F h0 h (f.next+1) tm B X.S.g d (X.few d j)) (fun _=>False):=by
  refine⟨fun j hj h w=>?_,fun j h w=>by have:=w.dq;rw[show f.next+1-2=h2.next+1 by omega]at this;exact this,fun j h w=>by have:=w.gq;rw[show f.next+1-3=h2.next by omega]at this;exact this⟩;have hz:Tk (d*X.S.g.Z+j):=by
   obtain⟨m0,m1⟩:=N1 (a:=d+9) (b:=X.S.g.Z) (A:=18) (B:=64) (by omega) (by omega) (by omega) (by omega);rw[Int.add_mul]at m0 m1;exact⟨by omega,by omega⟩
  obtain⟨v,h',e1,rfl,w'⟩:=Bdy (K:=K) A hK C t2 t5 (l0:=f.next+1) (by omega) (e:=e) (by omega) (d:=d) (best':=X.few d (j+1)) hz rfl w;exact⟨true,h',e1,by rw[aN rfl];exact w'⟩
 have E:Ext f (Bq TT 27 39 0 tm f):=Gh;have I0:Bda F h0 (Bq TT 27 39 0 tm f) (f.next+1) tm B X.S.g d (X.few d 0):=⟨Qt.ext ((J.trans t).trans E) hb,Gc,G3,E.at o (t.at p O),E.at o (t.at p y),by rw[show f.next+1-3=h2.next by omega];exact E.at o gg,by rw[show f.next+1-2=h2.next+1 by omega];exact E.at o gd⟩;refine Ok.Bax (K:=K) A (by omega) cl (by omega) C.sm I0 (fun h4 w=>?_) fun h4 w=>w.elim
 have w:Bda F h0 h4 (f.next+1) tm B X.S.g d (X.Aie d):=by
  unfold Co.Aie;by_cases G:0<=d/\d<X.S.g.D
  ·rw[aN G]at w⊢;exact w
  ·rw[aK G]at w⊢;exact w
 refine⟨w.lp,?_⟩;have Y:=w.q.hb;have l4:=Y _ _ w.lp;have q5:Qt F h0 (h4.put (f.next+1) (As TT 27 39 0 tm .exhausted none f.next)):=w.q.U6 ((Ar.refl (S:=fun i=>i=f.next+1) h4).Ak (.inl rfl) l4 _) fun i hi=>by omega
 have y:(h4.put (f.next+1) (As TT 27 39 0 tm .exhausted none f.next)).get (h0.next+1)=some (.cells [I (X.Aie d)] 3):=by rw[Af _ (by omega)];exact w.c5
 have gd:(h4.put (f.next+1) (As TT 27 39 0 tm .exhausted none f.next)).get f.next=some (.deferred true):=by rw[Af _ (by omega)];exact w.dd
 generalize h4.put (f.next+1) (As TT 27 39 0 tm .exhausted none f.next)=h5 at q5 y gd⊢;simp only[T9,dr];rw[Aj y rfl (v:=I (X.Aie d)) rfl];refine Ok.unwind (cQ.2 ⟨by simp,cj⟩) (fun d hd=>by rw[aO]at hd;subst hd;exact gd) q5.hb fun h6 ch _=>?_
 exact .ret ⟨rfl,q5.U6 ch fun i hi=>by rw[aO]at hi;omega⟩
theorem Bfa(a:disp 27=some (Akv F27))(hd:12<=dp){d:Int}(p : -9<=d/\d<=9):Ok (Ag TT disp K dp false 27 [.ptr B.c 0,I d] h0) fun v h'=>v=I (X.Aie d)/\Ext h0 h':=by
 obtain⟨e,rfl⟩:∃k,dp=k+1:=⟨dp-1,by omega⟩;obtain⟨v,h',e1,rfl,q⟩:=Bar (K:=K) A hK C (dp:=e) (by omega) p;rw[Atk a,Bee e1 fun i f=>q.same f];have gt:∀i,(⟨h'.t,h'.next,h0.mw⟩:Ab).get i=h'.get i:=fun i=>by cases h';rfl
 exact .ret ⟨rfl,fun i f _=>by rw[gt];exact q.same f,q.next,fun w w1 _ _=>w1,fun _ j o e=>by rw[gt]at e;exact q.hb j o e⟩
end
end Go.Ev
