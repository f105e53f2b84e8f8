import Derived.Test.YtadnemjjlacolaaGreatCb
set_option linter.all false
namespace Go.Ev
open Go.Proofs
set_option maxRecDepth 100000
variable {K d e i j m l0 zq:Nat}{x:Int}{Bt cur:Nat->Int}{h h' h0:Aa}{ih0:EV->EV->EV->Aa->R}{S:Mi}{F T:Nat->Prop}{k:EV->Aa->R}{Q:EV->Aa->Prop}{g:Gm}{Stop:Aa->Prop}{tm:Az}{ex:Nat->Aa->List Nat->R}{B:Cb}{L:List Nat}{X:Co}{disp:Nat->Option FT}
section
theorem Bqa:(E4 TT 55 0).2.1 = [8]:=by kernel_rfl
theorem Bpm {a b:EV}(hj:j<2)(k:EV->R):Awy 2 1 false 1 (.agg [a,b]) (I j) k=k (if j=0 then a else b):=by
 rcases j with _|_|j<;>first|rfl|omega
theorem Bp2 {a:Nat->Int}{o:Nat->Int}(f:i<3)(k:EV->R):Awy 3 2 true 2 (.agg [I (a 0),I (o 0),I (a 1),I (o 1),I (a 2),I (o 2)]) (I i) k=k (.agg [I (a i),I (o i)]):=by
 rcases i with _|_|_|i<;>first|rfl|omega
def Sp(x z:Int):Bool:=decide (¬x = -1)&&decide (x=z)
theorem Ble {z:Int}(h:¬x=z):Sp x z=false:=by unfold Sp;rw[aO h,cr]
theorem Bhn {z:Int}(h:¬x = -1)(e:x=z):Sp x z=true:=by unfold Sp;rw[aP h,aP e];rfl
def A7r(cur Bt:Nat->Int)(z:Int):Nat->Bool
 | 0=>false
 | i+1=>A7r cur Bt z i||(Sp (cur i) z||Sp (Bt i) z)
def Xb(cur Bt:Nat->Int)(z:Int):Bool:=A7r cur Bt z 3
theorem Bcl{z:Int}(a:i<=3)(h:A7r cur Bt z i=true):Xb cur Bt z=true:=by
 have st:∀i,A7r cur Bt z i=true->A7r cur Bt z (i+1)=true:=fun i h=>by
  show(A7r cur Bt z i||(Sp (cur i) z||Sp (Bt i) z))=true;rw[h];rfl
 unfold Xb;rcases i with _|_|_|_|i
 ·cases h
 ·exact st _ (st _ h)
 ·exact st _ h
 ·exact h
 ·omega
structure Asq(h:Aa)(l0 d0:Nat)(tm:Az)(b3 b4:Nat)(z:Int)(found:Bool):Prop where
 lp:h.get l0=some (Av TT 55 12 0 tm (if found then .done else .ready) (if found then some .ret else none) d0)
 c3:h.get b3=some (.cells [I z] 3)
 c4:h.get b4=some (.cells [.bool found] 4)
 hb:HB h
section
variable (H:Bv disp){d0 b3 b4:Nat}{z:Int}(t3:tmp tm 3=.ptr b3 0)(t4:tmp tm 4=.ptr b4 0)
include H t3 t4
theorem A8e(he:1<=e)(G:Asq h l0 d0 tm b3 b4 z false):
 ∃h',Ag TT disp K (e+1) true l0 [I x] h=some (.bool (decide (¬x=z)),h')/\Asq h' l0 d0 tm b3 b4 z (decide (x=z))/\Ar (fun j=>j=l0\/j=b4) h h':=by
 have D:=G.lp;simp only[aX,ak]at D;have p:=D;have M:=G.c3;have J:=G.c4;have hb:=G.hb;unfold Av at p;rw[Bqa]at p;rw[Amd H he tm h (I x) p,t3,t4];have E:=hb _ _ D;have V:=hb _ _ J;have q:l0≠b3:=Bb D M (by simp[Av]);have a:l0≠b4:=Bb D J (by simp[Av]);have O:b3≠b4:=Bb M J (by simp[I]);simp only[Afv,Yp D,X4,dr];have f:(h.put l0 (Av TT 55 12 0 tm .busy none d0)).get b3=some (.cells [I z] 3):=by rw[Af _ q];exact M
 have t:(h.put l0 (Av TT 55 12 0 tm .busy none d0)).get b4=some (.cells [.bool false] 4):=by rw[Af _ a];exact J
 have u:(h.put l0 (Av TT 55 12 0 tm .busy none d0)).get l0=some (Av TT 55 12 0 tm .busy none d0):=Ae _ _ _;have P:Ar (fun j=>j=l0\/j=b4) h (h.put l0 (Av TT 55 12 0 tm .busy none d0)):=(Ar.refl h).Aq (.inl (.inl rfl)) E _;have y:HB (h.put l0 (Av TT 55 12 0 tm .busy none d0)):=hb.put E _;have W:(h.put l0 (Av TT 55 12 0 tm .busy none d0)).next=h.next:=rfl
 generalize h.put l0 (Av TT 55 12 0 tm .busy none d0)=Y at f t u P y W⊢;simp only[Cs f rfl,Ab,I,Ac];by_cases U:x=z
 ·simp only[U,aB,Ab,aC,aA]
  rw[Anp (o:=0) (n:=1) (v:=.bool true) (l':=[.bool true]) t rfl rfl rfl,Q6 (by rw[Af _ (cP a)];exact u)];exact⟨_,rfl,⟨Ae _ _ _,by rw[Af _ q,Af _ (cP O)];exact f,by rw[Af _ a];exact Ae _ _ _,(y.put (by omega) _).put (by rw[Aa.Pr];omega) _⟩,(P.Aq (.inl (.inr rfl)) (by omega) _).Aq (.inl (.inl rfl)) (by rw[Aa.Pr];omega) _⟩
 ·simp only[U,aA,Ab,aN,aB]
  rw[Q6 u];exact⟨_,rfl,⟨Ae _ _ _,by rw[Af _ q];exact f,by rw[Af _ a];exact t,y.put (by omega) _⟩,P.Aq (.inl (.inl rfl)) (by omega) _⟩
def Axt(h:Aa)(l0 d0:Nat)(tm:Az)(b3 b4:Nat)(z:Int)(f:Bool):EV->Aa->Prop:=fun _ h'=>Asq h' l0 d0 tm b3 b4 z f/\Ar (fun j=>j=l0\/j=b4) h h'
theorem Bcq(he:2<=e){v10 v11:EV}{y:Int}{f:Bool}(D:Sp x z=true->f=true)(E:Sp y z=true->f=true)
 (Y:Sp x z=false->Sp y z=false->∀h,Asq h l0 d0 tm b3 b4 z false->Ar (fun j=>j=l0\/j=b4) h0 h->Ok (Km (Ag TT disp K e false) (Ag TT disp K e true) K ih0 (.Uv l0) v10 v11 h) (Axt h0 l0 d0 tm b3 b4 z f)) :
 ∀(m j:Nat) (h:Aa),2-j<m->j<=2->(1<=j->Sp x z=false)->(2<=j->Sp y z=false)->Asq h l0 d0 tm b3 b4 z false->Ar (fun j=>j=l0\/j=b4) h0 h ->
  Ok (Eb (Ag TT disp K e false) (Ag TT disp K e true) K ih0 m (.Uv l0) v10 v11 (.agg [I x,I y]) (I j) h) (Axt h0 l0 d0 tm b3 b4 z f):=by
 intro m;induction m with
 | zero=>intro j h hm;omega
 | succ m Z=>
  intro j h hm hj V jy G t;rw[Eb];simp only[I,Ac];by_cases J:j<2
  ·have e3:decide ((j:Int)<2)=true:=by simp;omega
   simp only[e3,Ab,Acs];have W:=fun k=>Bpm (a:=I x) (b:=I y) J k
   simp only[I]at W;rw[W];have go:∀v:Int,(Sp v z=true->f=true)->(Sp v z=false->(1<=j+1->Sp x z=false)/\(2<=j+1->Sp y z=false))->Ok (Kk Ajg (bin TT .neq 3) (.int .i64 v) (.int .i64 (-1)) fun n=>Ba (Fa n true)
    (Ap (S7 (Ag TT disp K e false) (Ag TT disp K e true) (.Uv l0) [.int .i64 v] h) fun M h=>An0 M fun O=>H4 (Ag TT disp K e false) (Ag TT disp K e true) K ih0 (Eb (Ag TT disp K e false) (Ag TT disp K e true) K ih0 m) (.Uv l0) v10 v11 (.agg [.int .i64 x,.int .i64 y]) (.int .i64 (j:Int)) n O h)
    (H4 (Ag TT disp K e false) (Ag TT disp K e true) K ih0 (Eb (Ag TT disp K e false) (Ag TT disp K e true) K ih0 m) (.Uv l0) v10 v11 (.agg [.int .i64 x,.int .i64 y]) (.int .i64 (j:Int)) n (.tuple []) h)) (Axt h0 l0 d0 tm b3 b4 z f):=by
    intro v P q;have nx:Sp v z=false->∀h2,Asq h2 l0 d0 tm b3 b4 z false->Ar (fun j=>j=l0\/j=b4) h0 h2->Ok (Tx (Ag TT disp K e false) (Ag TT disp K e true) K ih0 (Eb (Ag TT disp K e false) (Ag TT disp K e true) K ih0 m) (.Uv l0) v10 v11 (.agg [.int .i64 x,.int .i64 y]) (.int .i64 (j:Int)) h2) (Axt h0 l0 d0 tm b3 b4 z f):=by
     intro hp h2 o c2;simp only[Tx,Ac];rw[Cq,show((j:Nat):Int)+1=((j+1:Nat):Int) by omega];exact Z (j+1) h2 (by omega) (by omega) (q hp).1 (q hp).2 o c2
    simp only[Ac];by_cases u:v = -1
    ·simp only[u,aC,aA,Ab,Ac,H4]
     exact nx (by unfold Sp;rw[aO (fun y=>y u),av]) h G t
    ·have U:=u
     simp only[u,aN,aB,Ab,Ac];obtain⟨e,rfl⟩:∃k,e=k+1:=⟨e-1,by omega⟩;obtain⟨h2,r1,o,c2⟩:=A8e (K:=K) H t3 t4 (e:=e) (by omega) (x:=v) G;have hc:S7 (Ag TT disp K (e+1) false) (Ag TT disp K (e+1) true) (.Uv l0) [.int .i64 v] h=some (.bool (decide (¬v=z)),h2):=r1;rw[hc,As];by_cases p:v=z
     ·have hf:=P (Bhn U p)
      simp only[p,aB]at o;simp only[p,aC,aA,Ab,H4];rw[hf];exact .ret ⟨o,t.trans c2⟩
     ·have hp:=Ble p
      simp only[p,aA]at o;simp only[p,aN,aB,Ab,H4];exact nx hp h2 o (t.trans c2)
   rcases j with _|_|j
   ·exact go x D fun hp=>⟨fun _=>hp,fun y=>by omega⟩
   ·exact go y E fun hp=>⟨fun _=>V (by omega),fun _=>hp⟩
   ·omega
  ·have:j=2:=by omega
   subst this;simp only[show decide (((2:Nat):Int)<2)=false from rfl,Ab];exact Y (V (by omega)) (jy (by omega)) h G t
theorem Beq(hK:5<K)(he:2<=e):∀(m i:Nat) (h:Aa),3-i<m->i<=3->A7r cur Bt z i=false->Asq h l0 d0 tm b3 b4 z false->Ar (fun j=>j=l0\/j=b4) h0 h ->
 Ok (Ge (Ag TT disp K e false) (Ag TT disp K e true) K m (.Uv l0) (.agg [I (cur 0),I (Bt 0),I (cur 1),I (Bt 1),I (cur 2),I (Bt 2)]) (I i) h) (Axt h0 l0 d0 tm b3 b4 z (Xb cur Bt z)):=by
 intro m;induction m with
 | zero=>intro i h hm;omega
 | succ m E=>
  intro i h hm U n f t;rw[Ge];unfold I;simp only[Ac];by_cases q:i<3
  ·have e3:decide ((i:Int)<3)=true:=by simp;omega
   simp only[e3,Ab,Abw];have u:=fun k=>Bp2 (a:=cur) (o:=Bt) q k
   simp only[I]at u;rw[u]
   try simp only[Ab]
   refine Ok.mk rfl rfl fun h2 p D _=>?_
   have G:Asq h2 l0 d0 tm b3 b4 z false:=⟨p.at f.hb f.lp,p.at f.hb f.c3,p.at f.hb f.c4,p.hb f.hb⟩;rw[Al D rfl (v:=I (cur i)) rfl,Al D rfl (v:=I (Bt i)) rfl,Ax (l:=[I (cur i),I (Bt i)]) rfl];refine Bcq (K:=K) H t3 t4 he (fun hp=>Bcl (i:=i+1) (by omega) (by show(_||(Sp (cur i) z||Sp (Bt i) z))=true;rw[hp];simp)) (fun hp=>Bcl (i:=i+1) (by omega) (by show(_||(Sp (cur i) z||Sp (Bt i) z))=true;rw[hp];simp)) ?_ K 0 h2 (by omega) (by omega) (fun y=>by omega) (fun y=>by omega) G (t.trans (Ext.to p));intro J M O P c3;simp only[Km,Ac];rw[Cq,show((i:Nat):Int)+1=((i+1:Nat):Int) by omega];exact E (i+1) O (by omega) (by omega) (by show(A7r cur Bt z i||(Sp (cur i) z||Sp (Bt i) z))=false;rw[n,J,M];rfl) P c3
  ·have:i=3:=by omega
   subst this;simp only[show decide (((3:Nat):Int)<3)=false from rfl,Ab];rw[show Xb cur Bt z=false from n];exact .ret ⟨f,t⟩
end
section
variable (H:Bv disp)
include H
theorem Bbr(hd:5<=d)(hK:1000<K){ar:Nat}(hA:h.get ar=some (.cells (Z1 m cur Bt) 152))(hb:HB h)(z:Int):
 Ok (Ag TT disp K d false 55 [.ptr ar 0,I z] h) fun v h'=>v=.bool (Xb cur Bt z)/\Ext h h'/\HB h':=by
 obtain⟨e,rfl⟩:∃k,d=k+2:=⟨d-2,by omega⟩;rw[Ars H (by omega)];simp only[Amq,I,Ab,Aet];have M:Ext h (((h.new (.cells [.int .i64 z] 3)).new (.cells [.bool false] 4)).new (.cells [.ptr ar 0] 100)):=((Ar.new _ _).Df _).Df _;have n1:(((h.new (.cells [.int .i64 z] 3)).new (.cells [.bool false] 4)).new (.cells [.ptr ar 0] 100)).next=h.next+3:=rfl
 have Z:(((h.new (.cells [.int .i64 z] 3)).new (.cells [.bool false] 4)).new (.cells [.ptr ar 0] 100)).get (h.next+2)=some (.cells [.ptr ar 0] 100):=Ad _ _;have g4:(((h.new (.cells [.int .i64 z] 3)).new (.cells [.bool false] 4)).new (.cells [.ptr ar 0] 100)).get (h.next+1)=some (.cells [.bool false] 4):=by
  rw[Aw _ (aL _)];exact Ad _ _
 have g3:(((h.new (.cells [.int .i64 z] 3)).new (.cells [.bool false] 4)).new (.cells [.ptr ar 0] 100)).get h.next=some (.cells [I z] 3):=by
  rw[Aw _ (show h.next<h.next+2 by omega),Aw _ (show h.next<h.next+1 by omega)];exact Ad _ _
 rw[show((h.new (.cells [.int .i64 z] 3)).new (.cells [.bool false] 4)).next=h.next+2 from rfl,show(h.new (.cells [.int .i64 z] 3)).next=h.next+1 from rfl];generalize ((h.new (.cells [.int .i64 z] 3)).new (.cells [.bool false] 4)).new (.cells [.ptr ar 0] 100)=f at M n1 Z g4 g3⊢;have p:=M.hb hb;generalize t:((((((Tr.nil.put 0 (some (EV.ptr ar 0))).put 1 (some (EV.int .i64 z))).put 3 (some (EV.ptr h.next 0))).put 4 (some (EV.ptr (h.next+1) 0))).put 6 (some (EV.ptr ar 0))).put 7 (some (EV.func 128 [] [EV.ptr (h.next+2) 0])))=tm;have t3:tmp tm 3=.ptr h.next 0:=by rw[<-t];simp only[Ih,reduceIte,Nat.reduceEqDiff]
 have t4:tmp tm 4=.ptr (h.next+1) 0:=by rw[<-t];simp only[Ih,reduceIte,Nat.reduceEqDiff]
 clear t;refine Ok.range ?_;rw[Aof H (cQ _)];simp only[Ai8,dr];have u:Ext f (Cd TT 55 12 0 tm f):=Jf;have k0:(Cd TT 55 12 0 tm f).get f.next=some (.deferred true):=K9
 have k1:(Cd TT 55 12 0 tm f).get (f.next+1)=some (Av TT 55 12 0 tm .ready none f.next):=Jn;generalize Cd TT 55 12 0 tm f=U at u k0 k1⊢;have G:=u.hb p;have V:U.get ar=some (.cells (Z1 m cur Bt) 152):=u.at p (M.at hb hA);rw[Al (u.at p Z) rfl (v:=.ptr ar 0) rfl];simp only[Ab];rw[Cr V rfl (show Mo (Z1 m cur Bt) 1 6=some [I (cur 0),I (Bt 0),I (cur 1),I (Bt 1),I (cur 2),I (Bt 2)]from rfl)];have I3:Asq U (f.next+1) f.next tm h.next (h.next+1) z false:=⟨k1,u.at p g3,u.at p g4,G⟩
 refine(Beq (K:=K) H t3 t4 (by omega) (e:=e) (by omega) (cur:=cur) (Bt:=Bt) K 0 U (by omega) (by omega) rfl I3 (Ar.refl _)).mono ?_;rintro _ h4 ⟨q,c4⟩;generalize Xb cur Bt z=b at q⊢;have O:=q.hb _ _ q.lp;have kd:h4.get f.next=some (.deferred true):=c4.at G k0 (by omega)
 have x4:Ext h h4:=(M.trans u).then c4 fun i P a=>by omega
 have l5:=q.hb _ _ q.c4;have n:∀(y:Aa) (b:Bool),y.get (h.next+1)=some (.cells [.bool b] 4)->It TT [.c (.ptr (h.next+1) 0) 4] y=some (.bool b,y):=by
  intro y b hg;have hr:Ir y (h.next+1) 0 1=some [.bool b]:=by unfold Ir;rw[hg];rfl
  unfold It;simp only[Awm,show TT.size 4=some 1 by kernel_rfl,show TT.agg 4=some false by kernel_rfl,hr]
 have lp:=q.lp;cases b with
 | true=>
  simp only[bI]at lp;refine .inr ⟨lp,?_⟩;have o:HB (h4.put (f.next+1) (Av TT 55 12 0 tm .exhausted (some .ret) f.next)):=q.hb.put O _;refine Ok.unwind (cB.2 ⟨by simp,dG⟩) (fun d hd=>by rw[aM]at hd;subst hd;rw[Af _];exact kd) o fun J D _=>?_
  have W:J.get (h.next+1)=some (.cells [.bool true] 4):=Ar.at D o (by rw[Af _];exact q.c4) (by rw[aM];omega);rw[n J true W];exact .ret ⟨rfl,(x4.Aq (.inr (by omega)) O _).then D fun i P a=>by rw[aM]at P;omega,D.hb o⟩
 | false=>
  simp only[aX,ak]at lp;refine .inl ⟨lp,?_⟩;simp only[Wm,dr];have o:HB (h4.put (f.next+1) (Av TT 55 12 0 tm .exhausted none f.next)):=q.hb.put O _;have Y:(h4.put (f.next+1) (Av TT 55 12 0 tm .exhausted none f.next)).get (h.next+1)=some (.cells [.bool false] 4):=by rw[Af _];exact q.c4
  have x5:Ext h (h4.put (f.next+1) (Av TT 55 12 0 tm .exhausted none f.next)):=x4.Aq (.inr (by omega)) O _;have d5:(h4.put (f.next+1) (Av TT 55 12 0 tm .exhausted none f.next)).get f.next=some (.deferred true):=by rw[Af _];exact kd
  generalize h4.put (f.next+1) (Av TT 55 12 0 tm .exhausted none f.next)=y at o Y x5 d5⊢;have l6:=o _ _ Y;refine Ok.st1 Y rfl rfl (by show 0<1;decide) ?_;have E:HB (y.put (h.next+1) (.cells ([EV.bool false].set 0 (.bool false)) 4)):=o.put l6 _;refine Ok.unwind (cB.2 ⟨by simp,dG⟩) (fun d hd=>by rw[aM]at hd;subst hd;rw[Af _];exact d5) E fun J D _=>?_
  have W:J.get (h.next+1)=some (.cells [.bool false] 4):=Ar.at D E (Ae _ _ _) (by rw[aM];omega);rw[n J false W];exact .ret ⟨rfl,(x5.Aq (.inr (by omega)) l6 _).then D fun i P a=>by rw[aM]at P;omega,D.hb E⟩
end
end
section
theorem Bho(A:Bv disp)(hK:10000<K)(M:Cv h m S F)(hb:HB h)(hd:7<=d)(z:Int)
 (o:∀h' T,Kp T h h'->(∀i,T i->¬F i)->HB h'->Ok (k (.bool (hasB S.ps S.g.D.toNat z)) h') Q):Ok (Ap (Ci K (.ptr m 0) h) fun v h=>Ap (Ag TT disp K d false 29 [v,I z] h) k) Q:=by
 obtain⟨lt,D,p,bl,ql,np,q,c,G,a⟩:=M.s;rw[Wb a.H9,As];have f:=a.psz.nd;obtain⟨b1,b2,b3⟩:=a.psz.bd;subst f;refine(Bgz (K:=K) A a.Gl hb a.psz.cap (by omega) (by omega) hd (by omega) z).Ap ?_;rintro _ h' ⟨rfl,t,n⟩;refine o h' _ t (fun i u y=>?_) n;obtain⟨d,hd,rfl⟩:=u;exact(a.sub.2.2.2.2.2 d hd).2.2 y
theorem Bfu(hK:10000<K)(M:Cv h m S F)(hb:HB h)
 (n:∀h',Ext h h'->Ok (k (I (Fh S.ps S.g.D.toNat)) h') Q):Ok (Ap (Ci K (.ptr m 0) h) fun v h=>Ap (Gw K v h) k) Q:=by
 obtain⟨lt,D,p,bl,ql,np,q,c,G,a⟩:=M.s;rw[Wb a.H9,As];have f:=a.psz.nd;subst f;refine(A4w (K:=K) a.Gl hb a.psz.small (by omega)).Ap ?_;rintro _ h' ⟨rfl,x⟩;exact n h' x
structure Qt(F:Nat->Prop)(h h':Aa):Prop where
 Ow:∃T,Kp T h h'/\∀i,T i->¬F i
 hb:HB h'
theorem Qt.refl(hb:HB h):Qt F h h:=⟨⟨fun _=>False,Kp.refl _,fun _ y=>y.elim⟩,hb⟩
theorem Qt.ext(x:Ext h h')(hb:HB h):Qt F h h':=⟨⟨fun _=>False,Ext.kp x,fun _ y=>y.elim⟩,x.hb hb⟩
theorem Qt.trans{a b c:Aa}(x:Qt F a b)(y:Qt F b c):Qt F a c:=by
 obtain⟨⟨T,k,t⟩,_⟩:=x;obtain⟨⟨U,l,u⟩,hb⟩:=y;refine⟨⟨fun i=>T i\/U i,Kp.trans ⟨k.chg.mono fun i=>.inl,k.same⟩ ⟨l.chg.mono fun i=>.inr,l.same⟩,fun i f=>f.elim (t i) (u i)⟩,hb⟩
theorem Dw.rd(C:Dw h B X F)(r:Qt F h h'):Ey h h' B X F X:=by
 obtain⟨⟨T,k,t⟩,_⟩:=r;exact C.toK k t
theorem Qt.next(r:Qt F h h'):h.next<=h'.next:=by
 obtain⟨⟨T,k,t⟩,_⟩:=r;exact k.chg.next
def Co.closed(X:Co)(z:Int):Bool:=decide (0<=Bo X.S.g z)&&(decide (¬z=X.S.a)&&(decide (¬z=X.S.b)&&(!X.S.Ex z&&(!Xb X.cur X.Bt z&&!hasB X.S.ps X.S.g.D.toNat z))))
theorem Ao6(A:Bv disp)(hK:10000<K)(C:Dw h B X F)(hd:8<=d){z:Int}(t:Rng z):Ok (Ag TT disp K d false 19 [.ptr B.c 0,I z] h) fun v h'=>v=.bool (X.closed z)/\Qt F h h':=by
 obtain⟨e,rfl⟩:∃k,d=k+1:=⟨d-1,by omega⟩;rw[Amw A (by omega)];simp only[Ajc,Ab];rw[C.ldM,A5v C.M]
 try simp only[Ab]
 rw[C.ldM];refine(O0 (K:=K) C.M C.hb).Ap ?_;rintro _ h2 ⟨rfl,V⟩;refine(Js (K:=K) C.sm z t h2).Ap ?_;rintro _ u ⟨rfl,W⟩;have x:Ext h u:=V.trans W;have f:=(C.toE x).C;have o:Qt F h u:=Qt.ext x C.hb;unfold Co.closed;simp only[I,Ac];have Y:Fa (.tuple []) false=false/\Fa (.tuple []) true=false:=⟨rfl,rfl⟩;by_cases c1:0<=Bo X.S.g z
 case neg=>
  simp only[c1,aA,Ab,Ac,Tt,N7,Hx,Gg,Fe,av];exact .ret ⟨rfl,o⟩
 simp only[c1,aB,Ab,Ac,Tt,bA];by_cases c2:z=X.S.a
 ·simp only[c2,aC,aA,Ab,Ac,N7,Hx,Gg,Fe,av]
  exact .ret ⟨rfl,o⟩
 simp only[c2,aN,aB,Ab,Ac,N7,bA];by_cases c3:z=X.S.b
 ·simp only[c3,aC,aA,Ab,Ac,Hx,Gg,Fe,av]
  exact .ret ⟨rfl,o⟩
 simp only[c3,aN,aB,Ab,Ac,bA];rw[f.ldM];refine(No (K:=K) f.M.s f.hb t).Ap ?_;rintro _ h4 ⟨rfl,E⟩;have G:Qt F h h4:=o.trans (Qt.ext E f.hb);have n:=(f.toE E).C;cases X.S.Ex z with
 | true=>
  simp only[Ab,Ac,Hx,Gg,Fe,dM,av];exact .ret ⟨rfl,G⟩
 | false=>
 simp only[Ab,Ac,Hx,cu,bA];rw[n.Jb];have J:=Bbr (K:=K) A (d:=e) (by omega) (by omega) n.ar n.hb z;simp only[I]at J;refine J.Ap ?_;rintro _ Z ⟨rfl,O,_⟩;have P:Qt F h Z:=G.trans (Qt.ext O n.hb);have p:=(n.toE O).C;cases Xb X.cur X.Bt z with
 | true=>
  simp only[Ab,Ac,Gg,Fe,dM,av];exact .ret ⟨rfl,P⟩
 | false=>
 simp only[Ab,Ac,Gg,cu,bA];rw[p.ldM];refine Bho A hK p.M p.hb (d:=e) (by omega) z fun h6 T k6 t6 q=>?_
 have U:Qt F h h6:=P.trans ⟨⟨T,k6,fun i hi y=>t6 i hi (.inl y)⟩,q⟩;cases hasB X.S.ps X.S.g.D.toNat z with
 | true=>
  simp only[Ab,Ac,Fe,dM];exact .ret ⟨rfl,U⟩
 | false=>
  simp only[Ab,Ac,Fe,cu];exact .ret ⟨rfl,U⟩
def Co.dead(X:Co)(z:Int):Bool:=X.closed z&&decide (X5 X.S.g X.es z=0)
theorem Bby(A:Bv disp)(hK:10000<K)(C:Dw h B X F)(hd:9<=d){z:Int}(n:Rng z):Ok (Ag TT disp K d false 100 [.ptr B.c 0,I z] h) fun v h'=>v=.bool (X.dead z)/\Qt F h h':=by
 obtain⟨e,rfl⟩:∃k,d=k+1:=⟨d-1,by omega⟩;rw[Arb A (by omega)];simp only[Am4,Ab];refine(Ao6 A hK C (d:=e) (by omega) n).Ap ?_;rintro _ h2 ⟨rfl,a⟩;have f:=(C.rd a).C;unfold Co.dead;have o:Fa (.tuple []) false=false/\Fa (.tuple []) true=false:=⟨rfl,rfl⟩;cases X.closed z with
 | false=>
  simp only[Ab,Ac,Xv,av];exact .ret ⟨rfl,a⟩
 | true=>
  simp only[Ab,Ac,bA];rw[f.ldB,An9 f.map];simp only[Ab,I,Ac,Xv];exact .ret ⟨rfl,a⟩
theorem Sm.Ah7(s:Sm g):3<=g.D*g.Z/\g.D*g.Z<=512:=by
 have:=s.d0;have:=s.d1;have:=s.z0;have:=s.z1;obtain⟨f,m1⟩:=Qi (a:=g.D) (b:=g.Z) (A:=8) (B:=64) (by omega) (by omega) (by omega) (by omega);have:g.D*1<=g.D*g.Z:=bP (by omega) (by omega);omega
theorem Aib(A:Bv disp)(C:Dw h B X F)(a:∀h',Ext h h'->Ok (k (I (X.S.g.D*X.S.g.Z)) h') Q):Ok (Ap (Ca K (.ptr B.m 0) h) fun v h=>Ap (Dn K v h) k) Q:=by
 refine(O0 (K:=K) C.M C.hb).Ap ?_;rintro _ h2 ⟨rfl,f⟩;rw[Oy C.sm,As];exact a _ (f.Df _)
end
section
theorem Bqj:(E4 TT 144 0).2.1 = [8,9]:=by kernel_rfl
def inB(z:Int)(x:Me):Bool:=decide (x.state=1)&&(decide (x.Ah=z)||decide (x.Ay=z))
def ItS(N:Nat)(i:Nat):Prop:=N<=i/\i<N+4
structure A7n(h:Aa)(N:Nat)(tm:Az)(l0:Nat)(stop:Bool):Prop where
 y:h.get N=some (.cells [.Uv l0] 53)
 d:h.get (N+2)=some (.deferred true)
 l:h.get (N+3)=some (Av TT 144 31 0 tm (if stop then .done else .ready) (if stop then some .ret else none) (N+2))
 lt:N+4<=h.next
structure Bhx(disp:Nat->Option FT)(K e l0 zq b ml ll:Nat)(g:Gm)(es:List Me)(z:Int)(N:Nat)(Inv:Nat->Aa->Prop)(Stop:Aa->Prop):Prop where
 frI:∀j h h',Inv j h->Ar (ItS N) h h'->Inv j h'
 frS:∀h h',Stop h->Ar (ItS N) h h'->Stop h'
 Dc:∀j (hj:j<es.length) h,inB z es[j]=true->Inv j h->N+4<=h.next->∃more h',Ag TT disp K e true l0 [I j] h=some (.bool more,h')/\Ar (fun i=>¬ItS N i) h h'/\(if more=true then Inv (j+1) h' else Stop h')
 skp:∀j (hj:j<es.length) h,inB z es[j]=false->Inv j h->Inv (j+1) h
 hbI:∀j h,Inv j h->HB h
 hbS:∀h,Stop h->HB h
 map:∀j h,Inv j h->Rl h b ml ll g es
 zon:∀j h,Inv j h->h.get zq=some (.cells [I z] 3)
section
variable (H:Bv disp){b ml ll:Nat}{es:List Me}{z:Int}{N:Nat}{Inv:Nat->Aa->Prop}(c:Bhx disp K e l0 zq b ml ll g es z N Inv Stop)(t2:tmp tm 2=.ptr zq 0)(t3:tmp tm 3=.ptr N 0)(lz:zq<N)(he:2<=e)
include H c t2 t3 lz he
theorem Bhj(hj:j<es.length)(S0:A7n h N tm l0 false)(I0:Inv j h):
 ∃more h',Ag TT disp K (e+1) true (N+3) [I j,.agg es[j].cells] h=some (.bool more,h')/\A7n h' N tm l0 (!more)/\(if more=true then Inv (j+1) h' else Stop h'):=by
 have W:=S0.l;simp only[aX,ak]at W;have a:=W;have hb:=c.hbI _ _ I0;have Dc:=c.Dc j hj;have skp:=c.skp j hj;generalize es[j]=x at Dc skp⊢;unfold Av at a;rw[Bqj]at a;rw[An7 H he tm h (I j) _ a,t2,t3];simp only[Aip,Ab];rw[Anp (h:=h.new (.cells [EV.int .i64 0,.int .i64 0,.int .i64 0,.int .i64 0,.int .i64 0,.int .i64 0] 47)) (i:=h.next) (o:=0) (n:=6) (v:=.agg x.cells) (l:=[EV.int .i64 0,.int .i64 0,.int .i64 0,.int .i64 0,.int .i64 0,.int .i64 0]) (l':=x.cells) (t:=47) (Ad _ _) rfl rfl rfl];obtain⟨f,e_,u,e3,_⟩:=nP h (.cells [EV.int .i64 0,.int .i64 0,.int .i64 0,.int .i64 0,.int .i64 0,.int .i64 0] 47) (.cells x.cells 47);rw[e_];have Y:=u.hb hb;have q0:=u.at hb W;have l3:=Y _ _ q0;rw[Yp q0];have D:ItS N (N+3):=⟨by omega,by omega⟩;have c4:Ar (ItS N) h (f.put (N+3) (Av TT 144 31 0 tm .busy none (N+2))):=(Ext.to (S:=ItS N) u).Aq (.inl D) l3 _;have r0:(f.put (N+3) (Av TT 144 31 0 tm .busy none (N+2))).get (N+3)=some (Av TT 144 31 0 tm .busy none (N+2)):=Ae _ _ _;have E:(f.put (N+3) (Av TT 144 31 0 tm .busy none (N+2))).get N=some (.cells [.Uv l0] 53):=by rw[Af _];exact u.at hb S0.y
 have rd:(f.put (N+3) (Av TT 144 31 0 tm .busy none (N+2))).get (N+2)=some (.deferred true):=by rw[Af _];exact u.at hb S0.d
 have P:(f.put (N+3) (Av TT 144 31 0 tm .busy none (N+2))).get h.next=some (.cells x.cells 47):=by rw[Af _ (by have:=S0.lt;omega)];exact e3
 have G:=c.frI _ _ _ I0 c4;have J:h.next<=(f.put (N+3) (Av TT 144 31 0 tm .busy none (N+2))).next:=c4.next
 generalize f.put (N+3) (Av TT 144 31 0 tm .busy none (N+2))=h4 at c4 r0 E rd P G J⊢;have p:=c.hbI _ _ G;have rz:=c.zon _ _ G;have l4:=p _ _ r0;have Z:=S0.lt;have ao:Fa (.tuple []) false=false/\Fa (.tuple []) true=false:=⟨rfl,rfl⟩;have no:inB z x=false->∃more h',Wa (N+3) true .ready none h4=some (.bool more,h')/\A7n h' N tm l0 (!more)/\(if more=true then Inv (j+1) h' else Stop h'):=fun hn=>by
  rw[Q6 r0];refine⟨true,_,rfl,⟨by rw[Af _];exact E,by rw[Af _];exact rd,Ae _ _ _,by rw[Aa.Pr];omega⟩,?_⟩;rw[aH rfl];exact c.frI _ _ _ (skp h4 hn G) ((Ar.refl (S:=ItS N) h4).Aq (.inl D) l4 _)
 have yes:inB z x=true->∃more h',Ap (S7 (Ag TT disp K e false) (Ag TT disp K e true) (.Uv l0) [.int .i64 (j:Int)] h4) (fun aa h=>An0 aa fun ab=>Iz (Ag TT disp K e false) (Ag TT disp K e true) K (N+3) (.bool true) ab h)=some (.bool more,h')/\A7n h' N tm l0 (!more)/\(if more=true then Inv (j+1) h' else Stop h'):=fun hy=>by
  obtain⟨more,U,e5,c5,i5⟩:=Dc h4 hy G (bN Z J);have hc:S7 (Ag TT disp K e false) (Ag TT disp K e true) (.Uv l0) [.int .i64 (j:Int)] h4=some (.bool more,U):=e5;rw[hc,As];have kp:∀k o,ItS N k->h4.get k=some o->U.get k=some o:=fun k o hk g=>c5.at p g fun y=>y hk
  have q:=kp _ _ D r0;have M:=kp N _ ⟨by omega,by omega⟩ E;have O:=kp (N+2) _ ⟨by omega,by omega⟩ rd;have ae:=c5.hb p;have l5:=ae _ _ q;have ay:=c5.next
  cases more with
  | true=>
   simp only[Ab,Ac,Iz];rw[Q6 q];refine⟨true,_,rfl,⟨by rw[Af _];exact M,by rw[Af _];exact O,Ae _ _ _,by rw[Aa.Pr];omega⟩,?_⟩;rw[aH rfl]at i5⊢;exact c.frI _ _ _ i5 ((Ar.refl (S:=ItS N) U).Aq (.inl D) l5 _)
  | false=>
   simp only[Ab,Ac,Iz];rw[Q6 q];refine⟨false,_,rfl,⟨by rw[Af _];exact M,by rw[Af _];exact O,Ae _ _ _,by rw[Aa.Pr];omega⟩,?_⟩;rw[aF (by simp)]at i5⊢;exact c.frS _ _ i5 ((Ar.refl (S:=ItS N) U).Aq (.inl D) l5 _)
 simp only[Aar,Ab];rw[Al P rfl (v:=I x.state) rfl];unfold inB at no yes;simp only[I,Ac];by_cases s1:x.state=1
 case neg=>
  simp only[s1,aA,Ab,Ac,O2,Le,Ln,Iz];exact no (by rw[aO s1,av])
 simp only[s1,aB,Ab,Ac];rw[Al P rfl (v:=I x.Ah) rfl,Al rz rfl (v:=I z) rfl];simp only[I,Ac];by_cases z1:x.Ah=z
 ·simp only[z1,aB,Ab,Ac,O2,Le,Ln]
  rw[Al E rfl (v:=.Uv l0) rfl];exact yes (by rw[aP s1,aP z1];rfl)
 simp only[z1,aA,Ab,Ac,O2];rw[Al P rfl (v:=I x.Ay) rfl,Al rz rfl (v:=I z) rfl];simp only[I,Ac];by_cases V:x.Ay=z
 ·simp only[V,aB,Ab,Ac,Le,Ln]
  rw[Al E rfl (v:=.Uv l0) rfl];exact yes (by rw[aP s1,aP V,Bool.or_true];rfl)
 simp only[V,aA,Ab,Ac,Le,Ln,Iz];exact no (by rw[aO z1,aO V,Bool.or_false,cr])
theorem Bmv(D:es.length<=256):∀(m i:Nat) (h:Aa),es.length-i<m->i<=es.length->A7n h N tm l0 false->Inv i h ->
 Ok (Bz (Ag TT disp K (e+1) false) (Ag TT disp K (e+1) true) K m (.Uv (N+3)) (.slice ml 0 es.length es.length false) (I es.length) (I i) h) fun _ h'=>∃stop,A7n h' N tm l0 stop/\(if stop=true then Stop h' else Inv es.length h')/\HB h':=by
 intro m;induction m with
 | zero=>intro i h hm;omega
 | succ m q=>
  intro i h hm E S0 f;have hb:=c.hbI _ _ f;have t:=(c.map _ _ f).row;rw[Bz];simp only[I,Ac,Ab];by_cases a:i<es.length
  ·have:decide ((i:Int)<(es.length:Int))=true:=by simp;omega
   simp only[this,Ab,F1];rw[Nw a,bK,Cr t rfl (Axd es a)]
   try simp only[Ab]
   have rd:=fun h S0 f=>Bhj (K:=K) H c t2 t3 lz he a (h:=h) S0 f
   generalize es[i]=x at rd⊢;refine Ok.mk rfl rfl fun p o e3 _=>?_
   rw[Cr e3 rfl (Ak (n:=6) rfl)];have S3:A7n p N tm l0 false:=⟨o.at hb S0.y,o.at hb S0.d,o.at hb S0.l,bN S0.lt o.next⟩;obtain⟨more,h4,u,S4,i4⟩:=rd p S3 (c.frI _ _ _ f (Ext.to o));have v:S7 (Ag TT disp K (e+1) false) (Ag TT disp K (e+1) true) (.Uv (N+3)) [.int .i64 (i:Int),.agg x.cells] p=some (.bool more,h4):=u;rw[v,As];cases more with
   | false=>
    simp only[Ab];rw[aF (by simp)]at i4;refine .ret ⟨true,S4,by rw[aH rfl];exact i4,?_⟩;exact c.hbS _ i4
   | true=>
    simp only[Ab,Fy,Ac];rw[aH rfl]at i4;rw[Cq,show((i:Nat):Int)+1=((i+1:Nat):Int) by omega];exact q (i+1) h4 (by omega) (by omega) S4 i4
  ·have:decide ((i:Int)<(es.length:Int))=false:=by simp;omega
   have:i=es.length:=by omega
   subst this;simp only[Ab,aA,Int.lt_irrefl];exact .ret ⟨false,S0,by rw[aF (by simp)];exact f,hb⟩
end
theorem Bpj(H:Bv disp)(hK:1000<K){G b ml ll:Nat}{es:List Me}{z:Int}{Inv:Nat->Aa->Prop}(c:Bhx disp K e l0 zq b ml ll g es z h0.next Inv Stop)(he:2<=e)(s:Sm g)(Z:h0.get G=some (.cells [.ptr b 0] 43))(u:Inv 0 h0):
 Ok (Ag TT disp K (e+3) false 144 [.Uv l0,.ptr G 0,.ptr zq 0] h0) fun v h'=>v=.tuple []/\(Inv es.length h'\/Stop h'):=by
 have:=s.b0;have:=s.b1;have hb:=c.hbI _ _ u;have mp:=c.map _ _ u;have gz:=c.zon _ _ u;have hlen:=mp.len;have lz:=hb _ _ gz;have lm:=hb _ _ mp.row;rw[Asz H (by omega)];simp only[Aqc,dr];rw[Bk2 rfl];obtain⟨a,e_,y,y1,n1⟩:=nW h0 (.cells (EV.Uv l0).cells 53);rw[e_];have o:=y.hb hb;rw[Al (y.at hb Z) rfl (v:=.ptr b 0) rfl];simp only[Wj,Ab,E5];rw[Al (y.at hb mp.map) rfl (v:=.slice ml 0 g.B.toNat g.B.toNat false) rfl,<-hlen];simp only[Ab];have D:Ext a (a.new (.cells [.slice ml 0 es.length es.length false] 113)):=Ar.new _ _;have V:(a.new (.cells [.slice ml 0 es.length es.length false] 113)).get a.next=some (.cells [.slice ml 0 es.length es.length false] 113):=Ad _ _
 have W:(a.new (.cells [.slice ml 0 es.length es.length false] 113)).next=h0.next+2:=by rw[Aa.Dl,n1]
 generalize a.new (.cells [.slice ml 0 es.length es.length false] 113)=h2 at D V W⊢;have p:=D.hb o;generalize f:(((((Tr.nil.put 0 (some (EV.Uv l0))).put 1 (some (EV.ptr G 0))).put 2 (some (EV.ptr zq 0))).put 3 (some (EV.ptr h0.next 0))).put 6 (some (EV.ptr b 0))).put 7 (some (EV.func 104 [] [EV.ptr a.next 0]))=tm;have t2:tmp tm 2=.ptr zq 0:=by rw[<-f];simp only[Ih,reduceIte,Nat.reduceEqDiff]
 have t3:tmp tm 3=.ptr h0.next 0:=by rw[<-f];simp only[Ih,reduceIte,Nat.reduceEqDiff]
 clear f;refine Ok.range ?_;have q:Ext h2 (Cd TT 144 31 0 tm h2):=Jf;have J:(Cd TT 144 31 0 tm h2).get h2.next=some (.deferred true):=K9
 have M:(Cd TT 144 31 0 tm h2).get (h2.next+1)=some (Av TT 144 31 0 tm .ready none h2.next):=Jn;have n3:(Cd TT 144 31 0 tm h2).next=h2.next+2:=rfl
 generalize Cd TT 144 31 0 tm h2=O at q J M n3⊢;have af:=q.hb p;rw[W]at J M n3⊢;have P:Ext h0 O:=(y.trans D).trans q;rw[I8 H (cQ _)];simp only[Gr,dr];rw[Al (q.at p V) rfl (v:=.slice ml 0 es.length es.length false) rfl];simp only[Ab];have S3:A7n O h0.next tm l0 false:=⟨Ext.at (D.trans q) o y1,J,M,by omega⟩
 have I3:=c.frI _ _ _ u (Ext.to P);refine(Bmv (K:=K) H c t2 t3 lz he (by omega) K 0 O (by omega) (by omega) S3 I3).mono ?_;rintro _ h4 ⟨stop,S4,i4,n⟩;have lp:=S4.l;have E:=n _ _ lp;have ah:=S4.lt;have sd:ItS h0.next (h0.next+2):=⟨by omega,by omega⟩
 have Y:ItS h0.next (h0.next+3):=⟨by omega,by omega⟩
 cases stop with
 | true=>
  simp only[bI]at lp i4;refine .inr ⟨lp,?_⟩;have d5:(h4.put (h0.next+2+1) (Av TT 144 31 0 tm .exhausted (some .ret) (h0.next+2))).get (h0.next+2)=some (.deferred true):=by rw[Af _];exact S4.d
  refine Ok.unwind (cB.2 ⟨by simp,dG⟩) (fun d hd=>by rw[aM]at hd;subst hd;exact d5) (n.put E _) fun h6 U _=>?_
  refine .ret ⟨rfl,.inr (c.frS _ _ i4 (((Ar.refl (S:=ItS h0.next) h4).Aq (.inl Y) E _).trans (U.mono fun i t=>by rw[aM]at t;subst t;exact sd)))⟩
 | false=>
  simp only[aX,ak]at lp i4;refine .inl ⟨lp,?_⟩;have d5:(h4.put (h0.next+2+1) (Av TT 144 31 0 tm .exhausted none (h0.next+2))).get (h0.next+2)=some (.deferred true):=by rw[Af _];exact S4.d
  refine Ok.unwind (cB.2 ⟨by simp,dG⟩) (fun d hd=>by rw[aM]at hd;subst hd;exact d5) (n.put E _) fun h6 U _=>?_
  refine .ret ⟨rfl,.inl (c.frI _ _ _ i4 (((Ar.refl (S:=ItS h0.next) h4).Aq (.inl Y) E _).trans (U.mono fun i t=>by rw[aM]at t;subst t;exact sd)))⟩
end
section
theorem Qt.Aq1(q:Qt F h0 h)(c:Ar T h h')(t:∀i,T i->h0.next<=i):Qt F h0 h':=by
 obtain⟨⟨U,k,u⟩,hb⟩:=q;exact⟨⟨U,k.A3e c t,u⟩,c.hb hb⟩
theorem Ok.Aov(H:Bv disp)(hK:1000<K){a b ml ll:Nat}{es:List Me}{z:Int}{Inv:Nat->Aa->Prop}{fn n:Nat}{ds:List Nat}{k:Aa->List Nat->R}{ret:Aa->List Nat->R}
 (c:Bhx disp K e (h.next+1) zq b ml ll g es z (h.next+2) Inv Stop) (he:2<=e) (s:Sm g) (f:h.get a=some (.cells [.ptr b 0] 43)) (hb:HB h) (o:Inv 0 (Cd TT fn n i tm h))
 (p:∀h',Inv es.length h'->h'.get (h.next+1)=some (Av TT fn n i tm .ready none h.next)/\Ok (k (h'.put (h.next+1) (Av TT fn n i tm .exhausted none h.next)) (h.next::ds)) Q)
 (q:∀h',Stop h'->h'.get (h.next+1)=some (Av TT fn n i tm .done (some .ret) h.next)/\Ok (ret (h'.put (h.next+1) (Av TT fn n i tm .exhausted (some .ret) h.next)) (h.next::ds)) Q) :
 Ok (Wd (Ag TT disp K (e+3) false) TT fn n i (.func 144 [] [.ptr a 0,.ptr zq 0]) tm h ds k ex ret) Q:=by
 refine Ok.range ((Bpj (K:=K) H hK (h0:=Cd TT fn n i tm h) c he s (Jf.at hb f) o).mono ?_);rintro _ h' ⟨rfl,y|y⟩
 ·exact .inl (p h' y)
 ·exact .inr (q h' y)
def Ato(S:Mi)(x:Me):Bool:=!S.Ex x.Ah&&!S.Ex x.Ay
def Aba(S:Mi)(z:Int)(es:List Me):Bool:=es.all fun x=>!inB z x||Ato S x
theorem Axq{z:Int}{es:List Me}(hj:j<es.length):Aba S z (es.take (j+1))=(Aba S z (es.take j)&&(!inB z es[j]||Ato S es[j])):=by
 unfold Aba;rw[fH,List.all_append,aD hj];simp
theorem Bj4{z:Int}{es:List Me}(hj:j<es.length)(a:inB z es[j]=true)(f:Ato S es[j]=false):Aba S z es=false:=by
 unfold Aba;rw[List.all_eq_false];exact⟨es[j],a9 hj,by rw[a,f];simp⟩
structure A4j(F:Nat->Prop)(h0 h:Aa)(l0:Nat)(tm:Az)(B:Cb)(zq:Nat)(z:Int)(stop:Bool):Prop where
 q:Qt F h0 h
 lp:h.get l0=some (Av TT 80 40 0 tm (if stop then .done else .ready) (if stop then some .ret else none) (l0-1))
 dd:h.get (l0-1)=some (.deferred true)
 c2:h.get h0.next=some (.cells [.ptr B.c 0] 26)
 c4:h.get (h0.next+1)=some (.cells [.bool false] 4)
 zq:h.get zq=some (.cells [I z] 3)
theorem A4j.chg{z:Int}{stop:Bool}(w:A4j F h0 h l0 tm B zq z stop)(c:Ar T h h')(t:∀i,T i->l0<i)(l:h0.next+1<l0)(lz:zq<l0):A4j F h0 h' l0 tm B zq z stop:=by
 have kp:∀i o,h.get i=some o->i<=l0->h'.get i=some o:=fun i o g a=>c.at w.q.hb g fun y=>by have:=t i y;omega
 exact⟨w.q.Aq1 c fun i a=>by have:=t i a;omega,kp _ _ w.lp (aE _),kp _ _ w.dd (by omega),kp _ _ w.c2 (by omega),kp _ _ w.c4 (by omega),kp _ _ w.zq (by omega)⟩
theorem Bqk:(E4 TT 80 0).2.1 = [14]:=by kernel_rfl
theorem Blg {es:List Me}(hj:j<es.length):An2 es (j:Int)=(es[j],0):=by
 unfold An2;rw[aH ⟨by omega,by omega⟩,bD,aD hj];rfl
theorem A9a(s:Sm g){x:Me}(h:meR g x=true):Rng x.Ah/\Rng x.Ay:=by
 obtain⟨_,a,b,_⟩:=Bjm s h;exact⟨⟨by omega,by omega⟩,⟨by omega,by omega⟩⟩
section
variable (A:Bv disp)(hK:10000<K)(C:Dw h0 B X F)
include A C
theorem A5n{z:Int}(t2:tmp tm 2=.ptr h0.next 0)(t4:tmp tm 4=.ptr (h0.next+1) 0)(l:h0.next+1<l0)(lz:zq<l0)(nz:h0.next+1<zq)(he:4<=e)(hj:j<X.es.length)(D:A4j F h0 h l0 tm B zq z false):
 Ok (Ag TT disp K e true l0 [I j] h) fun v h'=>v=.bool (Ato X.S X.es[j])/\Ar (fun i=>i=l0\/i=h0.next+1) h h'/\A4j F h0 h' l0 tm B zq z (!Ato X.S X.es[j]):=by
 obtain⟨e,rfl⟩:∃k,e=k+1:=⟨e-1,by omega⟩;have hg:=D.lp;simp only[aX,ak]at hg;have E:=hg;unfold Av at E;rw[Bqk]at E;rw[Akf A (by omega) tm h (I j) E,t2,t4];have hb:=D.q.hb;have P:=hb _ _ hg;simp only[Afc,Yp hg,Vw,dr];have n4:l0≠h0.next+1:=by omega
 have c1:Ar (fun i=>i=l0\/i=h0.next+1) h (h.put l0 (Av TT 80 40 0 tm .busy none (l0-1))):=(Ar.refl h).Aq (.inl (.inl rfl)) P _;have g0:(h.put l0 (Av TT 80 40 0 tm .busy none (l0-1))).get l0=some (Av TT 80 40 0 tm .busy none (l0-1)):=Ae _ _ _;have kp:∀i o,h.get i=some o->i≠l0->(h.put l0 (Av TT 80 40 0 tm .busy none (l0-1))).get i=some o:=fun i o g U=>by rw[Af _ (cP U)];exact g
 have gd:=kp _ _ D.dd (by omega);have G:=kp _ _ D.c2 (by omega);have g4:=kp _ _ D.c4 (by omega);have gz:=kp _ _ D.zq (by omega);have q1:Qt F h0 (h.put l0 (Av TT 80 40 0 tm .busy none (l0-1))):=D.q.Aq1 ((Ar.refl (S:=fun i=>i=l0) h).Aq (.inl rfl) P _) fun i U=>by omega
 clear kp;generalize h.put l0 (Av TT 80 40 0 tm .busy none (l0-1))=h1 at c1 g0 gd G g4 gz q1⊢;have t:=(C.rd q1).C;rw[Al G rfl (v:=.ptr B.c 0) rfl];simp only[Ab];rw[t.ldB];refine(Uq (K:=K) C.sm t.map t.hb j).Ap ?_;rintro _ h2 ⟨rfl,x2⟩;rw[Blg hj];have hx:=C.map.ok _ (a9 hj);obtain⟨r1,r2⟩:=A9a C.sm hx;unfold Ato;generalize X.es[j]=x at r1 r2⊢;simp only[Ab];have ai:=x2.hb t.hb;refine Ok.mk rfl rfl fun h3 x3 e3 _=>?_
 have J:=x2.trans x3;have a:=x3.hb ai;have V:∀{i o},h1.get i=some o->h3.get i=some o:=fun g=>Ext.at J t.hb g
 have C3:=(t.toE J).C;have l2:=a _ _ (V G);have lc:=a _ _ C3.core;have le:=a _ _ e3;rw[Jb l2,Al (V G) rfl (v:=.ptr B.c 0) rfl];simp only[Ab,Au];rw[Jb lc,C3.ldM];simp only[Ab,Au];rw[Jb le,Al e3 rfl (v:=I x.Ah) rfl];simp only[Ab,Au];refine Ok.bE (No (K:=K) (C3.M.same (Al4.lift _)).s (Dg a) r1) (fun _ _ p=>p.2) ?_;rintro _ a5 h4 ⟨rfl,_⟩ _ x4;have ao:=x4.hb a;have u:=J.trans x4;have fin:∀(b:Bool) (y:Aa),Ext h1 y->Ok (Cz (Ag TT disp K e false) (Ag TT disp K e true) K l0 h3.next ⟨0,[],[],[],[]⟩ (.ptr (h0.next+1) 0) (.bool (!b)) (.bool (!b)) y) fun v h'=>v=.bool b/\Ar (fun i=>i=l0\/i=h0.next+1) h h'/\A4j F h0 h' l0 tm B zq z (!b):=fun b y O=>by
  have W:=O.hb t.hb;have f:∀{i o},h1.get i=some o->y.get i=some o:=fun g=>Ext.at O t.hb g
  have q5:=q1.trans (Qt.ext O t.hb);have l5:=W _ _ (f g0);have Y:=W _ _ (f g4);have c5:=c1.trans (Ext.to O);cases b with
  | true=>
   simp only[Cz,dM,Ab,Ac];rw[Q6 (f g0)];exact .ret ⟨rfl,c5.Aq (.inl (.inl rfl)) l5 _,q5.Aq1 ((Ar.refl (S:=fun i=>i=l0) y).Aq (.inl rfl) l5 _) (fun i U=>by omega),Ae _ _ _,by rw[Af _];exact f gd,by rw[Af _];exact f G,by rw[Af _];exact f g4,by rw[Af _];exact f gz⟩
  | false=>
   simp only[Cz,cu,Ab,Ac];rw[Anp (o:=0) (n:=1) (v:=.bool false) (l':=[.bool false]) (f g4) rfl rfl rfl,Q6 (by rw[Af _ (cP n4)];exact f g0)];exact .ret ⟨rfl,(c5.Aq (.inl (.inr rfl)) Y _).Aq (.inl (.inl rfl)) l5 _,q5.Aq1 (((Ar.refl (S:=fun i=>h0.next<=i) y).Aq (.inl (by omega)) Y _).Aq (.inl (by omega)) l5 _) (fun i U=>U),Ae _ _ _,
    by rw[Af _,Af _];exact f gd,by rw[Af _,Af _];exact f G,by rw[Af _];exact Ae _ _ _,by rw[Af _,Af _];exact f gz⟩
 cases X.S.Ex x.Ah with
 | true=>
  have:=fin false h4 u;simp only[Cz,cu,Ab,Ac]at this;simp only[Ab,Ac,Cz,dM,av];exact this
 | false=>
 simp only[Ab,Ac,cu,bA];have aq:∀{i o},h1.get i=some o->h4.get i=some o:=fun g=>Ext.at u t.hb g
 have C4:=(t.toE u).C;rw[Jb l2,Al (aq G) rfl (v:=.ptr B.c 0) rfl];simp only[Ab,Au];rw[Jb lc,C4.ldM];simp only[Ab,Au];rw[Jb le,Al (x4.at a e3) rfl (v:=I x.Ay) rfl];simp only[Ab,Au];refine Ok.bE (No (K:=K) (C4.M.same (Al4.lift _)).s (Dg ao) r2) (fun _ _ p=>p.2) ?_;rintro _ a6 y ⟨rfl,_⟩ _ O;have Z:=u.trans O;cases X.S.Ex x.Ay with
 | true=>
  have:=fin false y Z;simp only[Cz,cu,Ab,Ac]at this;simp only[Ab,Ac,Cz,dM];exact this
 | false=>
  have:=fin true y Z;simp only[Cz,dM,Ab,Ac]at this;simp only[Ab,Ac,Cz,cu];exact this
include hK
theorem Bgw(hd:8<=d)(z:Int):Ok (Ag TT disp K d false 80 [.ptr B.c 0,I z] h0) fun v h'=>v=.bool (Aba X.S z X.es)/\Qt F h0 h':=by
 obtain⟨e,rfl⟩:∃k,d=k+3+1:=⟨d-4,by omega⟩;rw[Apn A (by omega)];simp only[Ak6,Ab];have hb:=C.hb;have O:Ext h0 ((h0.new (.cells [.ptr B.c 0] 26)).new (.cells [.bool false] 4)):=(Ar.new _ _).Df _;have E:((h0.new (.cells [.ptr B.c 0] 26)).new (.cells [.bool false] 4)).next=h0.next+2:=rfl
 have V:((h0.new (.cells [.ptr B.c 0] 26)).new (.cells [.bool false] 4)).get h0.next=some (.cells [.ptr B.c 0] 26):=by rw[Aw _ (aL _)];exact Ad _ _
 have G:((h0.new (.cells [.ptr B.c 0] 26)).new (.cells [.bool false] 4)).get (h0.next+1)=some (.cells [.bool false] 4):=Ad _ _;rw[show(h0.new (.cells [.ptr B.c 0] 26)).next=h0.next+1 from rfl];generalize (h0.new (.cells [.ptr B.c 0] 26)).new (.cells [.bool false] 4)=n at O E V G⊢;have p:=O.hb hb;have C1:=(C.toE O).C;rw[Al V rfl (v:=.ptr B.c 0) rfl];simp only[Ab];rw[C1.ldB];simp only[Z2,Ab,I];have J:Ext n ((n.new (.cells [.ptr B.b 0] 43)).new (.cells [.int .i64 z] 3)):=(Ar.new _ _).Df _;have n2:((n.new (.cells [.ptr B.b 0] 43)).new (.cells [.int .i64 z] 3)).next=h0.next+4:=by rw[Aa.Dl,Aa.Dl,E]
 have gv:((n.new (.cells [.ptr B.b 0] 43)).new (.cells [.int .i64 z] 3)).get (h0.next+2)=some (.cells [.ptr B.b 0] 43):=by rw[<-E,Aw _ (aL _)];exact Ad _ _
 have gz:((n.new (.cells [.ptr B.b 0] 43)).new (.cells [.int .i64 z] 3)).get (h0.next+3)=some (.cells [I z] 3):=by rw[show h0.next+3=(n.new (.cells [.ptr B.b 0] 43)).next by rw[Aa.Dl,E]];exact Ad _ _
 rw[show(n.new (.cells [.ptr B.b 0] 43)).next=h0.next+3 by rw[Aa.Dl,E],E];generalize (n.new (.cells [.ptr B.b 0] 43)).new (.cells [.int .i64 z] 3)=h2 at J n2 gv gz⊢;have f:=J.hb p;have W:Ext h0 h2:=O.trans J;generalize t:(((((((((Tr.nil.put 0 (some (EV.ptr B.c 0))).put 1 (some (EV.int .i64 z))).put 2 (some (EV.ptr h0.next 0))).put 4 (some (EV.ptr (h0.next+1) 0))).put 8 (some (EV.ptr B.c 0))).put 9 (some (EV.ptr B.c 0))).put 10 (some (EV.ptr B.c 2))).put 11 (some (EV.ptr B.b 0))).put 12 (some (EV.int .i64 z))).put 13 (some (EV.func 144 [] [EV.ptr (h0.next+2) 0,EV.ptr (h0.next+3) 0]))=tm;have t2:tmp tm 2=.ptr h0.next 0:=by rw[<-t];simp only[Ih,reduceIte,Nat.reduceEqDiff]
 have t4:tmp tm 4=.ptr (h0.next+1) 0:=by rw[<-t];simp only[Ih,reduceIte,Nat.reduceEqDiff]
 clear t;have nl:h2.next+1=h0.next+5:=by omega
 have hlen:=C.map.len;have cl:Bhx disp K e (h2.next+1) (h0.next+3) B.b B.ml B.ll X.S.g X.es z (h2.next+2) (fun j h=>A4j F h0 h (h2.next+1) tm B (h0.next+3) z false/\Aba X.S z (X.es.take j)=true) (fun h=>A4j F h0 h (h2.next+1) tm B (h0.next+3) z true/\Aba X.S z X.es=false):=by
  refine⟨fun j h h' w c=>⟨w.1.chg c (fun i a=>by have:=a.1;omega) (by omega) (by omega),w.2⟩,fun h h' w c=>⟨w.1.chg c (fun i a=>by have:=a.1;omega) (by omega) (by omega),w.2⟩,fun j hj h a w _=>?_,fun j hj h a w=>⟨w.1,?_⟩,fun j h w=>w.1.q.hb,fun h w=>w.1.q.hb,fun j h w=>(C.rd w.1.q).C.map,fun j h w=>w.1.zq⟩
  ·obtain⟨v,h',e1,rfl,c,w'⟩:=A5n (K:=K) A C t2 t4 (l0:=h2.next+1) (zq:=h0.next+3) (by omega) (by omega) (by omega) (e:=e) (by omega) hj w.1
   refine⟨_,h',e1,c.mono fun i a y=>?_,?_⟩
   ·have:=y.1;omega
   ·cases P:Ato X.S X.es[j]with
    | true=>
     rw[aH rfl];rw[P]at w';exact⟨w',by rw[Axq hj,w.2,P];simp⟩
    | false=>
     rw[aF (by simp)];rw[P]at w';exact⟨w',Bj4 hj a P⟩
  ·rw[Axq hj,w.2,a];rfl
 have U:Ext h2 (Cd TT 80 40 0 tm h2):=Jf;have I0:A4j F h0 (Cd TT 80 40 0 tm h2) (h2.next+1) tm B (h0.next+3) z false:=⟨Qt.ext (W.trans U) hb,Jn,K9,U.at f (J.at p V),U.at f (J.at p G),U.at f gz⟩;refine Ok.Aov (K:=K) A (by omega) cl (by omega) C.sm gv f ⟨I0,rfl⟩ (fun o w=>⟨w.1.lp,?_⟩) fun o w=>⟨w.1.lp,?_⟩
 ·have w2:=w.2
  rw[cO]at w2;rw[w2];have u:=w.1.q.hb;have Y:=u _ _ w.1.lp;have D:Qt F h0 (o.put (h2.next+1) (Av TT 80 40 0 tm .exhausted none h2.next)):=w.1.q.Aq1 ((Ar.refl (S:=fun i=>i=h2.next+1) o).Aq (.inl rfl) Y _) fun i a=>by omega
  have G:(o.put (h2.next+1) (Av TT 80 40 0 tm .exhausted none h2.next)).get (h0.next+1)=some (.cells [.bool false] 4):=by rw[Af _];exact w.1.c4
  have gd:(o.put (h2.next+1) (Av TT 80 40 0 tm .exhausted none h2.next)).get h2.next=some (.deferred true):=by rw[Af _];exact w.1.dd
  generalize o.put (h2.next+1) (Av TT 80 40 0 tm .exhausted none h2.next)=h4 at D G gd⊢;have l4:=D.hb _ _ G;simp only[U0,dr];refine Ok.st1 G rfl rfl (by show 0<1;decide) ?_;have Z:Qt F h0 (h4.put (h0.next+1) (.cells ([EV.bool false].set 0 (.bool true)) 4)):=D.Aq1 ((Ar.refl (S:=fun i=>i=h0.next+1) h4).Aq (.inl rfl) l4 _) fun i a=>by omega
  refine Ok.unwind (cB.2 ⟨by simp,dG⟩) (fun d hd=>by rw[aM]at hd;subst hd;rw[Af _];exact gd) Z.hb fun h6 M _=>?_
  have g6:h6.get (h0.next+1)=some (.cells [.bool true] 4):=Ar.at M Z.hb (Ae _ _ _) (by rw[aM];omega);rw[Aiw g6];exact .ret ⟨rfl,Z.Aq1 M fun i a=>by rw[aM]at a;omega⟩
 ·rw[w.2]
  have u:=w.1.q.hb;have Y:=u _ _ w.1.lp;have D:Qt F h0 (o.put (h2.next+1) (Av TT 80 40 0 tm .exhausted (some .ret) h2.next)):=w.1.q.Aq1 ((Ar.refl (S:=fun i=>i=h2.next+1) o).Aq (.inl rfl) Y _) fun i a=>by omega
  refine Ok.unwind (cB.2 ⟨by simp,dG⟩) (fun d hd=>by rw[aM]at hd;subst hd;rw[Af _];exact w.1.dd) D.hb fun h6 M _=>?_
  have g6:h6.get (h0.next+1)=some (.cells [.bool false] 4):=Ar.at M D.hb (by rw[Af _];exact w.1.c4) (by rw[aM];omega);rw[Aiw g6];exact .ret ⟨rfl,D.Aq1 M fun i a=>by rw[aM]at a;omega⟩
end
end
section
def blN(z:Int)(es:List Me)(j:Nat):List Nat:=(List.range j).filter fun i=>inB z ((es[i]?).getD (Me.nil 0))
theorem Bn9 {z:Int}{es:List Me}(hj:j<es.length)(h:inB z es[j]=true):blN z es (j+1)=blN z es j++[j]:=by
 unfold blN;rw[cb,eO,eJ,aD hj];simp[h]
theorem Bpx {z:Int}{es:List Me}(hj:j<es.length)(h:inB z es[j]=false):blN z es (j+1)=blN z es j:=by
 unfold blN;rw[cb,eO,eJ,aD hj];simp[h]
theorem Biq(z:Int)(es:List Me)(j:Nat):(blN z es j).length<=j:=by
 unfold blN;have:=eP (fun i=>inB z ((es[i]?).getD (Me.nil 0))) (List.range j);simpa using this
def nI(i:Nat):EV:=I (i:Int)
structure A83(F:Nat->Prop)(h0 h:Aa)(l0:Nat)(tm:Az)(zq:Nat)(z:Int)(L:List Nat):Prop where
 q:Qt F h0 h
 lp:h.get l0=some (Av TT 73 19 0 tm .ready none (l0-1))
 dd:h.get (l0-1)=some (.deferred true)
 zq:h.get zq=some (.cells [I z] 3)
 row:∃s qr,h.get h0.next=some (.cells [s] 28)/\Cj h s qr 3 1 L.length (L.map nI)/\(0<L.length->l0+5<=qr)
theorem A83.chg{z:Int}(w:A83 F h0 h l0 tm zq z L)(c:Ar T h h')(t:∀i,T i->l0<i/\i<l0+5)(l:h0.next<l0)(lz:zq<l0):A83 F h0 h' l0 tm zq z L:=by
 have kp:∀i o,h.get i=some o->i<=l0->h'.get i=some o:=fun i o g a=>c.at w.q.hb g fun y=>by have:=t i y;omega
 obtain⟨s,qr,p,f,n⟩:=w.row;exact⟨w.q.Aq1 c fun i a=>by have:=t i a;omega,kp _ _ w.lp (aE _),kp _ _ w.dd (by omega),kp _ _ w.zq (by omega),s,qr,kp _ _ p (by omega),f.frame fun y=>c.get _ (w.q.hb _ _ (f.block y)) fun u=>by have:=t _ u;have:=n y;omega,n⟩
theorem Bpn:(E4 TT 73 0).2.1 = [13]:=by kernel_rfl
section
variable (A:Bv disp)(hK:10000<K)
include A
theorem A4r{z:Int}(t5:tmp tm 5=.ptr h0.next 0)(l:h0.next+1<l0)(lz:zq<l0)(nz:h0.next<zq)(he:2<=e)(hL:L.length<=256)(nx:l0+5<=h.next)(p:A83 F h0 h l0 tm zq z L):
 Ok (Ag TT disp K e true l0 [I j] h) fun v h'=>v=.bool true/\Ar (fun i=>¬(l0<i/\i<l0+5)) h h'/\A83 F h0 h' l0 tm zq z (L++[j]):=by
 obtain⟨e,rfl⟩:∃k,e=k+1:=⟨e-1,by omega⟩;have O:=p.lp;have n:=O;unfold Av at n;rw[Bpn]at n;rw[Ai0 A (by omega) tm h (I j) n,t5];have hb:=p.q.hb;have P:=hb _ _ O;simp only[Abs,Yp O,U4,dr];obtain⟨s,qr,r1,r2,M⟩:=p.row;have c1:Ar (fun i=>i=l0) h (h.put l0 (Av TT 73 19 0 tm .busy none (l0-1))):=(Ar.refl (S:=fun i=>i=l0) h).Aq (.inl rfl) P _;have U:(h.put l0 (Av TT 73 19 0 tm .busy none (l0-1))).get l0=some (Av TT 73 19 0 tm .busy none (l0-1)):=Ae _ _ _;have kp:∀i o,h.get i=some o->i≠l0->(h.put l0 (Av TT 73 19 0 tm .busy none (l0-1))).get i=some o:=fun i o g f=>by rw[Af _ (cP f)];exact g
 have gd:=kp _ _ p.dd (by omega);have V:=kp _ _ r1 (by omega);have Z:=kp _ _ p.zq (by omega);have rr:=r2.frame (h':=h.put l0 (Av TT 73 19 0 tm .busy none (l0-1))) fun y=>Af _ (by have:=M y;omega)
 have W:(h.put l0 (Av TT 73 19 0 tm .busy none (l0-1))).next=h.next:=rfl
 have t:Qt F h0 (h.put l0 (Av TT 73 19 0 tm .busy none (l0-1))):=p.q.Aq1 c1 fun i f=>by omega
 clear kp;generalize h.put l0 (Av TT 73 19 0 tm .busy none (l0-1))=u at c1 U gd V Z rr W t⊢;rw[Al V rfl (v:=s) rfl];refine Nu (z:=[.int .i64 0]) (v:=I j) rr t.hb rfl rfl rfl (by omega) (by omega) fun h2 D ad c2=>?_
 have E:=c2.hb t.hb;have G:∀i o,u.get i=some o->i<=l0->h2.get i=some o:=fun i o g f=>c2.at t.hb g fun y=>by have:=M y.1;omega
 have J:=G _ _ V (by omega);have l5:=E _ _ J;have Y:=E _ _ (G _ _ U (aE _));refine Ok.st1 J rfl rfl (by show 0<1;decide) ?_;rw[Q6 (by rw[Af _];exact G _ _ U (aE _))];have c3:Ar (fun i=>i=l0\/i=h0.next) h2 ((h2.put h0.next (.cells ([s].set 0 (.slice (u.next+1) 0 (L.length+1) (L.length+1) true)) 28)).put l0 (Av TT 73 19 0 tm .ready none (l0-1))):=((Ar.refl h2).Aq (.inl (.inr rfl)) l5 _).Aq (.inl (.inl rfl)) Y _;have same:∀i,i≠l0->i≠h0.next->((h2.put h0.next (.cells ([s].set 0 (.slice (u.next+1) 0 (L.length+1) (L.length+1) true)) 28)).put l0 (Av TT 73 19 0 tm .ready none (l0-1))).get i=h2.get i:=fun i a b=>by rw[Af _ (cP a),Af _ (cP b)]
 refine .ret ⟨rfl,?_,?_,?_,?_,?_,?_⟩
 ·refine((c1.mono fun i f y=>?_).trans (c2.mono fun i f y=>?_)).trans (c3.mono fun i f y=>?_)
  ·omega
  ·have:=M f.1;omega
  ·omega
 ·refine(t.Aq1 c2 fun i f=>?_).Aq1 c3 fun i f=>by omega
  have:=M f.1;omega
 ·exact Ae _ _ _
 ·rw[same _ (by omega) (by omega)];exact G _ _ gd (by omega)
 ·rw[same _ (by omega) (by omega)];exact G _ _ Z (by omega)
 ·refine⟨.slice (u.next+1) 0 (L.length+1) (L.length+1) true,u.next+1,?_,?_,fun _=>by omega⟩
  ·rw[Af _];exact Ae _ _ _
  ·rw[aG,cS]
   exact Cj.frame D fun _=>same _ (by omega) (by omega)
include hK
theorem Bdx(C:Dw h0 B X F)(hd:8<=d)(z:Int):Ok (Ag TT disp K d false 73 [.ptr B.c 0,I z] h0) fun v h'=>Qt F h0 h'/\∃qr,Cj h' v qr 3 1 (blN z X.es X.es.length).length ((blN z X.es X.es.length).map nI)/\(0<(blN z X.es X.es.length).length->h0.next<=qr):=by
 obtain⟨e,rfl⟩:∃k,d=k+3+1:=⟨d-4,by omega⟩;rw[Aoc A (by omega)];simp only[Ai2,Ab];have hb:=C.hb;obtain⟨f,Z,J,D,p⟩:=nW h0 (.cells [.Ao] 28);rw[Z];have t:=J.hb hb;have C1:=(C.toE J).C;rw[C1.ldB];simp only[Z2,Ab,I];have E:Ext f ((f.new (.cells [.ptr B.b 0] 43)).new (.cells [.int .i64 z] 3)):=(Ar.new _ _).Df _;have n2:((f.new (.cells [.ptr B.b 0] 43)).new (.cells [.int .i64 z] 3)).next=h0.next+3:=by rw[Aa.Dl,Aa.Dl,p]
 have V:((f.new (.cells [.ptr B.b 0] 43)).new (.cells [.int .i64 z] 3)).get (h0.next+1)=some (.cells [.ptr B.b 0] 43):=by rw[<-p,Aw _ (aL _)];exact Ad _ _
 have W:((f.new (.cells [.ptr B.b 0] 43)).new (.cells [.int .i64 z] 3)).get (h0.next+2)=some (.cells [I z] 3):=by rw[show h0.next+2=(f.new (.cells [.ptr B.b 0] 43)).next by rw[Aa.Dl,p]];exact Ad _ _
 rw[show(f.new (.cells [.ptr B.b 0] 43)).next=h0.next+2 by rw[Aa.Dl,p],p];generalize (f.new (.cells [.ptr B.b 0] 43)).new (.cells [.int .i64 z] 3)=h2 at E n2 V W⊢;have n:=E.hb t;have M:Ext h0 h2:=J.trans E;generalize u:(((((((((Tr.nil.put 0 (some (EV.ptr B.c 0))).put 1 (some (EV.int .i64 z))).put 4 (some EV.Ao)).put 5 (some (EV.ptr h0.next 0))).put 7 (some (EV.ptr B.c 0))).put 8 (some (EV.ptr B.c 0))).put 9 (some (EV.ptr B.c 2))).put 10 (some (EV.ptr B.b 0))).put 11 (some (EV.int .i64 z))).put 12 (some (EV.func 144 [] [EV.ptr (h0.next+1) 0,EV.ptr (h0.next+2) 0]))=tm;have t5:tmp tm 5=.ptr h0.next 0:=by rw[<-u];simp only[Ih,reduceIte,Nat.reduceEqDiff]
 clear u;have nl:h2.next+1=h0.next+4:=by omega
 have hlen:=C.map.len;have:=C.sm.b0;have:=C.sm.b1;have cl:Bhx disp K e (h2.next+1) (h0.next+2) B.b B.ml B.ll X.S.g X.es z (h2.next+2) (fun j h=>A83 F h0 h (h2.next+1) tm (h0.next+2) z (blN z X.es j)/\j<=X.es.length) (fun h=>False):=by
  refine⟨fun j h h' w c=>⟨w.1.chg c (fun i a=>by have:=a.1;have:=a.2;omega) (by omega) (by omega),w.2⟩,fun h h' w c=>w.elim,fun j hj h a w nx=>?_,fun j hj h a w=>⟨by rw[Bpx hj a];exact w.1,hj⟩,fun j h w=>w.1.q.hb,fun h w=>w.elim,fun j h w=>(C.rd w.1.q).C.map,fun j h w=>w.1.zq⟩;have bl:=Biq z X.es j;obtain⟨v,h',e1,rfl,c,w'⟩:=A4r (K:=K) A t5 (l0:=h2.next+1) (zq:=h0.next+2) (by omega) (by omega) (by omega) (e:=e) (by omega) (j:=j) (by omega) (by omega) w.1;refine⟨true,h',e1,c.mono fun i a y=>a ⟨by have:=y.1;omega,by have:=y.2;omega⟩,?_⟩;rw[aH rfl,Bn9 hj a];exact⟨w',hj⟩
 have O:Ext h2 (Cd TT 73 19 0 tm h2):=Jf;have I0:A83 F h0 (Cd TT 73 19 0 tm h2) (h2.next+1) tm (h0.next+2) z (blN z X.es 0):=⟨Qt.ext (M.trans O) hb,Jn,K9,O.at n W,.Ao,0,O.at n (E.at t D),Cj.nil _ _ _ _,fun y=>absurd y (bO 0)⟩;refine Ok.Aov (K:=K) A (by omega) cl (by omega) C.sm V n ⟨I0,cQ _⟩ (fun o w=>⟨w.1.lp,?_⟩) fun o w=>w.elim
 obtain⟨w,_⟩:=w;obtain⟨s,qr,r1,r2,P⟩:=w.row;have U:=w.q.hb;have l3:=U _ _ w.lp;have G:Qt F h0 (o.put (h2.next+1) (Av TT 73 19 0 tm .exhausted none h2.next)):=w.q.Aq1 ((Ar.refl (S:=fun i=>i=h2.next+1) o).Aq (.inl rfl) l3 _) fun i a=>by omega
 have D:(o.put (h2.next+1) (Av TT 73 19 0 tm .exhausted none h2.next)).get h0.next=some (.cells [s] 28):=by rw[Af _];exact r1
 have gd:(o.put (h2.next+1) (Av TT 73 19 0 tm .exhausted none h2.next)).get h2.next=some (.deferred true):=by rw[Af _];exact w.dd
 have rr:=r2.frame (h':=o.put (h2.next+1) (Av TT 73 19 0 tm .exhausted none h2.next)) fun y=>Af _ (by have:=P y;omega)
 generalize o.put (h2.next+1) (Av TT 73 19 0 tm .exhausted none h2.next)=h4 at G D gd rr⊢;simp only[Tl,dr];rw[Al D rfl (v:=s) rfl];refine Ok.unwind (cB.2 ⟨by simp,dG⟩) (fun d hd=>by rw[aM]at hd;subst hd;exact gd) G.hb fun h6 Y _=>?_
 exact .ret ⟨G.Aq1 Y fun i a=>by rw[aM]at a;omega,qr,rr.frame fun y=>Y.get _ (G.hb _ _ (rr.block y)) fun y'=>by rw[aM]at y';have:=P y;omega,fun y=>by have:=P y;omega⟩
end
end
section
def Co.live(X:Co)(z:Int):Int:=X5 X.S.g X.es z
def Co.Aq3(X:Co)(z:Int):Bool:=X.closed z&&(decide (2*X.live z<=X.S.g.S)&&Aba X.S z X.es)
def Co.J9(X:Co):Nat->Int
 | 0=>-1
 | i+1=>if X.Aq3 i=true/\(X.J9 i = -1\/X.live i<X.live (X.J9 i))then i else X.J9 i
theorem Co.A3p(X:Co):∀n,-1<=X.J9 n/\X.J9 n<n
 | 0=>by unfold Co.J9;omega
 | n+1=>by
  have:=X.A3p n;unfold Co.J9;split<;>omega
theorem Ba6(a:X.es.length<=256)(z:Int):0<=X.live z/\X.live z<=256:=by
 unfold Co.live X5;split
 ·have:=Ajk z X.es;omega
 ·omega
theorem Dw.Bkb(C:Dw h B X F):X.es.length<=256:=by
 have:=C.map.len;have:=C.sm.b1;have:=C.sm.b0;omega
theorem Bdp(A:Bv disp)(hK:10000<K){n:Nat}(hn:X.S.g.D*X.S.g.Z=n)(hd:8<=d):∀(f i:Nat) (h:Aa),n-i<f->i<=n->Dw h B X F ->
 Ok (H2 (Ag TT disp K d false) (Ag TT disp K d true) K f (.ptr B.c 0) (I (X.J9 i)) (I n) (I i) h) fun v h'=>v=I (X.J9 n)/\Qt F h h':=by
 intro f;induction f with
 | zero=>intro i h Y;omega
 | succ f ih=>
  intro i h Y hi C;have bd:=C.sm.Ah7;have U:=C.Bkb;rw[H2];simp only[I,Ac];by_cases ab:i<n
  ·have:decide ((i:Int)<(n:Int))=true:=by simp;omega
   simp only[this,Ab,Acr];rw[C.ldB];have ml:=An9 (K:=K) C.map i;simp only[I]at ml;rw[ml,As];refine(Ao6 A hK C hd (z:=i) ⟨by omega,by omega⟩).Ap ?_;rintro _ h2 ⟨rfl,O⟩;have G:=(C.rd O).C;have nx:∀h' b,Qt F h h'->b=X.J9 (i+1)->Ok (N8 (Ag TT disp K d false) (Ag TT disp K d true) K (H2 (Ag TT disp K d false) (Ag TT disp K d true) K f) (.ptr B.c 0) (.int .i64 b) (.int .i64 (n:Int)) (.int .i64 (i:Int)) h') fun v h'=>v=I (X.J9 n)/\Qt F h h':=by
    intro h' b q hb;subst hb;simp only[N8,Ac];rw[Cq,show((i:Nat):Int)+1=((i+1:Nat):Int) by omega];refine(ih (i+1) h' (by omega) (by omega) (C.rd q).C).mono ?_;rintro v t ⟨a,u⟩;exact⟨a,q.trans u⟩
   have no:X.Aq3 i=false->X.J9 i=X.J9 (i+1):=fun E=>by
    rw[show X.J9 (i+1)=if X.Aq3 i=true/\(X.J9 i = -1\/X.live i<X.live (X.J9 i))then(i:Int)else X.J9 i from rfl,aF (by rw[E];simp)]
   have lb:=Ba6 U i;have vb:=X.A3p i;have ad:=Ba6 U (X.J9 i);have ae:Fa (.tuple []) false=false/\Fa (.tuple []) true=false:=⟨rfl,rfl⟩;unfold Co.Aq3 at no;show Ok (An0 (.bool (X.closed i)) _) _;cases E:X.closed i with
   | false=>
    simp only[Ab,Ac,N3,Kg];exact nx _ _ O (no (by rw[E,av]))
   | true=>
   simp only[Ab,Ac];rw[G.ldM];refine(O0 (K:=K) G.M G.hb).Ap ?_;rintro _ t ⟨rfl,x3⟩;have u:=O.trans (Qt.ext x3 G.hb);have C3:=(C.rd u).C;unfold gV;rw[Art (v:=I X.S.g.S) rfl];simp only[I,Ac];have hL:X5 X.S.g X.es i=X.live i:=rfl;rw[hL,Cq];by_cases h2:X.S.g.S<2*X.live i
   ·simp only[h2,aB,Ab,Ac,N3,Kg]
    exact nx _ _ u (no (by rw[E,aO (by omega)];rfl))
   simp only[h2,aA,Ab,Ac,N3];have V:=Bgw (K:=K) A hK C3 (d:=d) hd i;simp only[I]at V;refine V.Ap ?_;rintro _ h4 ⟨rfl,p⟩;have p:=u.trans p;have W:=(C.rd p).C;cases hw:Aba X.S i X.es with
   | false=>
    simp only[Ab,Ac,Kg];exact nx _ _ p (no (by rw[hw,cr,cr]))
   | true=>
   simp only[Ab,Ac,Kg,Acl];have o:X.Aq3 i=true:=by unfold Co.Aq3;rw[E,hw,aP (by omega)];rfl
   by_cases J:X.J9 i = -1
   ·simp only[J,aB,Ab,Ac,Tm]
    exact nx _ _ p (by rw[show X.J9 (i+1)=if X.Aq3 i=true/\(X.J9 i = -1\/X.live i<X.live (X.J9 i))then(i:Int)else X.J9 i from rfl,aH ⟨o,.inl J⟩])
   simp only[J,aA,Ab,Ac];rw[W.ldB];have ml:=An9 (K:=K) W.map (X.J9 i);simp only[I]at ml;rw[ml,As];simp only[Ac,Tm];have P:X5 X.S.g X.es (X.J9 i)=X.live (X.J9 i):=rfl;rw[P];by_cases t:X.live i<X.live (X.J9 i)
   ·simp only[t,aB,Ab,Ac]
    exact nx _ _ p (by rw[show X.J9 (i+1)=if X.Aq3 i=true/\(X.J9 i = -1\/X.live i<X.live (X.J9 i))then(i:Int)else X.J9 i from rfl,aH ⟨o,.inr t⟩])
   ·simp only[t,aA,Ab,Ac]
    exact nx _ _ p (by rw[show X.J9 (i+1)=if X.Aq3 i=true/\(X.J9 i = -1\/X.live i<X.live (X.J9 i))then(i:Int)else X.J9 i from rfl,aF fun y=>y.2.elim J t])
  ·have:decide ((i:Int)<(n:Int))=false:=by simp;omega
   have:i=n:=by omega
   subst this;simp only[Int.lt_irrefl,aA,Ab,Ace];exact .ret ⟨rfl,Qt.refl C.hb⟩
theorem Bda(A:Bv disp)(hK:10000<K)(C:Dw h B X F)(hd:9<=d):Ok (Ag TT disp K d false 33 [.ptr B.c 0] h) fun v h'=>v=I (X.J9 (X.S.g.D*X.S.g.Z).toNat)/\Qt F h h':=by
 obtain⟨e,rfl⟩:∃k,d=k+1:=⟨d-1,by omega⟩;rw[Anj A (by omega)];simp only[Ah9,Ab];rw[C.ldM];refine Aib A C fun h2 f=>?_
 have bd:=C.sm.Ah7;obtain⟨n,o⟩:=a8 (show 0<=X.S.g.D*X.S.g.Z by omega);rw[o,bD];refine(Bdp A hK o (d:=e) (by omega) K 0 h2 (by omega) (by omega) (C.toE f).C).mono ?_;rintro v q ⟨a,p⟩;exact⟨a,(Qt.ext f C.hb).trans p⟩
end
theorem Dw.lift(C:Dw h B X F):Dw h.lift B X F:=
 ⟨C.M.same (Al4.lift _),by rw[By];exact C.core,by rw[By];exact C.ar,C.map.frame (By _ _) (By _ _) (By _ _),C.wf,C.out,Dg C.hb⟩
end Go.Ev
