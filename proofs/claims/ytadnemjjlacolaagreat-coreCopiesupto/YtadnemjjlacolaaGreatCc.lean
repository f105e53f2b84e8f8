import Derived.Test.YtadnemjjlacolaaGreatCb
set_option linter.all false
namespace Go.Ev
open Go.Proofs
set_option maxRecDepth 100000
variable {K d e i j m l0 zq:Nat}{x:Int}{By cur:Nat->Int}{h h' h0:Ab}{ih0:EV->EV->EV->Ab->R}{S:Mi}{F T:Nat->Prop}{k:EV->Ab->R}{Q:EV->Ab->Prop}{g:Gm}{Stop:Ab->Prop}{tm:Ax}{ex:Nat->Ab->List Nat->R}{B:Cb}{L:List Nat}{X:Co}{disp:Nat->Option FT}
section
theorem Bwa:(E4 TT 55 0).2.1 = [8]:=by kernel_rfl
theorem Bte {a b:EV}(hj:j<2)(k:EV->R):A08 2 1 false 1 (.agg [a,b]) (I j) k=k (if j=0 then a else b):=by
 rcases j with _|_|j<;>first|rfl|omega
theorem Bvy {a:Nat->Int}{o:Nat->Int}(f:i<3)(k:EV->R):A08 3 2 true 2 (.agg [I (a 0),I (o 0),I (a 1),I (o 1),I (a 2),I (o 2)]) (I i) k=k (.agg [I (a i),I (o i)]):=by
 rcases i with _|_|_|i<;>first|rfl|omega
def Yv(x z:Int):Bool:=decide (¬x = -1)&&decide (x=z)
theorem Bsf {z:Int}(h:¬x=z):Yv x z=false:=by unfold Yv;rw[aP h,cS]
theorem Bqv {z:Int}(h:¬x = -1)(e:x=z):Yv x z=true:=by unfold Yv;rw[aM h,aM e];rfl
def Bdh(cur By:Nat->Int)(z:Int):Nat->Bool
 | 0=>false
 | i+1=>Bdh cur By z i||(Yv (cur i) z||Yv (By i) z)
def Ada(cur By:Nat->Int)(z:Int):Bool:=Bdh cur By z 3
theorem Biy{z:Int}(a:i<=3)(h:Bdh cur By z i=true):Ada cur By z=true:=by
 have st:∀i,Bdh cur By z i=true->Bdh cur By z (i+1)=true:=fun i h=>by
  show(Bdh cur By z i||(Yv (cur i) z||Yv (By i) z))=true;rw[h];rfl
 unfold Ada;rcases i with _|_|_|_|i
 ·cases h
 ·exact st _ (st _ h)
 ·exact st _ h
 ·exact h
 ·omega
structure Azu(h:Ab)(l0 d0:Nat)(tm:Ax)(b3 b4:Nat)(z:Int)(found:Bool):Prop where
 lp:h.get l0=some (Au TT 55 12 0 tm (if found then .done else .ready) (if found then some .ret else none) d0)
 c3:h.get b3=some (.cells [I z] 3)
 c4:h.get b4=some (.cells [.bool found] 4)
 hb:HB h
section
variable (H:Bj disp){d0 b3 b4:Nat}{z:Int}(t3:tmp tm 3=.ptr b3 0)(t4:tmp tm 4=.ptr b4 0)
include H t3 t4
theorem Bgk(he:1<=e)(G:Azu h l0 d0 tm b3 b4 z false):
 ∃h',Ae TT disp K (e+1) true l0 [I x] h=some (.bool (decide (¬x=z)),h')/\Azu h' l0 d0 tm b3 b4 z (decide (x=z))/\Av (fun j=>j=l0\/j=b4) h h':=by
 have D:=G.lp;simp only[ak,bD]at D;have p:=D;have J:=G.c3;have g4:=G.c4;have hb:=G.hb;unfold Au at p;rw[Bwa]at p;rw[Asf H he tm h (I x) p,t3,t4];have E:=hb _ _ D;have U:=hb _ _ g4;have q:l0≠b3:=Bb D J (by simp[Au]);have a:l0≠b4:=Bb D g4 (by simp[Au]);have M:b3≠b4:=Bb J g4 (by simp[I]);simp only[Am4,Abi D,Ad5,dr];have f:(h.put l0 (Au TT 55 12 0 tm .busy none d0)).get b3=some (.cells [I z] 3):=by rw[Ag _ q];exact J
 have t:(h.put l0 (Au TT 55 12 0 tm .busy none d0)).get b4=some (.cells [.bool false] 4):=by rw[Ag _ a];exact g4
 have u:(h.put l0 (Au TT 55 12 0 tm .busy none d0)).get l0=some (Au TT 55 12 0 tm .busy none d0):=Af _ _ _;have O:Av (fun j=>j=l0\/j=b4) h (h.put l0 (Au TT 55 12 0 tm .busy none d0)):=(Av.refl h).Ar (.inl (.inl rfl)) E _;have y:HB (h.put l0 (Au TT 55 12 0 tm .busy none d0)):=hb.put E _;have V:(h.put l0 (Au TT 55 12 0 tm .busy none d0)).next=h.next:=rfl
 generalize h.put l0 (Au TT 55 12 0 tm .busy none d0)=W at f t u O y V⊢;simp only[C8 f rfl,Aa,I,Ac];by_cases P:x=z
 ·simp only[P,aB,Aa,aD,aA]
  rw[An9 (o:=0) (n:=1) (v:=.bool true) (l':=[.bool true]) t rfl rfl rfl,Tm (by rw[Ag _ (cV a)];exact u)];exact⟨_,rfl,⟨Af _ _ _,by rw[Ag _ q,Ag _ (cV M)];exact f,by rw[Ag _ a];exact Af _ _ _,(y.put (by omega) _).put (by rw[Ab.Si];omega) _⟩,(O.Ar (.inl (.inr rfl)) (by omega) _).Ar (.inl (.inl rfl)) (by rw[Ab.Si];omega) _⟩
 ·simp only[P,aA,Aa,aN,aB]
  rw[Tm u];exact⟨_,rfl,⟨Af _ _ _,by rw[Ag _ q];exact f,by rw[Ag _ a];exact t,y.put (by omega) _⟩,O.Ar (.inl (.inl rfl)) (by omega) _⟩
def A38(h:Ab)(l0 d0:Nat)(tm:Ax)(b3 b4:Nat)(z:Int)(f:Bool):EV->Ab->Prop:=fun _ h'=>Azu h' l0 d0 tm b3 b4 z f/\Av (fun j=>j=l0\/j=b4) h h'
theorem Blh(he:2<=e){v10 v11:EV}{y:Int}{f:Bool}(D:Yv x z=true->f=true)(E:Yv y z=true->f=true)
 (Y:Yv x z=false->Yv y z=false->∀h,Azu h l0 d0 tm b3 b4 z false->Av (fun j=>j=l0\/j=b4) h0 h->Ok (Mr (Ae TT disp K e false) (Ae TT disp K e true) K ih0 (.yld l0) v10 v11 h) (A38 h0 l0 d0 tm b3 b4 z f)) :
 ∀(m j:Nat) (h:Ab),2-j<m->j<=2->(1<=j->Yv x z=false)->(2<=j->Yv y z=false)->Azu h l0 d0 tm b3 b4 z false->Av (fun j=>j=l0\/j=b4) h0 h ->
  Ok (E5 (Ae TT disp K e false) (Ae TT disp K e true) K ih0 m (.yld l0) v10 v11 (.agg [I x,I y]) (I j) h) (A38 h0 l0 d0 tm b3 b4 z f):=by
 intro m;induction m with
 | zero=>intro j h hm;omega
 | succ m Z=>
  intro j h hm hj V jy G t;rw[E5];simp only[I,Ac];by_cases J:j<2
  ·have e3:decide ((j:Int)<2)=true:=by simp;omega
   simp only[e3,Aa,Aik];have W:=fun k=>Bte (a:=I x) (b:=I y) J k
   simp only[I]at W;rw[W];have go:∀v:Int,(Yv v z=true->f=true)->(Yv v z=false->(1<=j+1->Yv x z=false)/\(2<=j+1->Yv y z=false))->Ok (Kl Alb (bin TT .neq 3) (.int .i64 v) (.int .i64 (-1)) fun n=>Bf (Cg n true)
    (An (Xq (Ae TT disp K e false) (Ae TT disp K e true) (.yld l0) [.int .i64 v] h) fun M h=>Arw M fun O=>J6 (Ae TT disp K e false) (Ae TT disp K e true) K ih0 (E5 (Ae TT disp K e false) (Ae TT disp K e true) K ih0 m) (.yld l0) v10 v11 (.agg [.int .i64 x,.int .i64 y]) (.int .i64 (j:Int)) n O h)
    (J6 (Ae TT disp K e false) (Ae TT disp K e true) K ih0 (E5 (Ae TT disp K e false) (Ae TT disp K e true) K ih0 m) (.yld l0) v10 v11 (.agg [.int .i64 x,.int .i64 y]) (.int .i64 (j:Int)) n (.tuple []) h)) (A38 h0 l0 d0 tm b3 b4 z f):=by
    intro v P q;have nx:Yv v z=false->∀h2,Azu h2 l0 d0 tm b3 b4 z false->Av (fun j=>j=l0\/j=b4) h0 h2->Ok (Zt (Ae TT disp K e false) (Ae TT disp K e true) K ih0 (E5 (Ae TT disp K e false) (Ae TT disp K e true) K ih0 m) (.yld l0) v10 v11 (.agg [.int .i64 x,.int .i64 y]) (.int .i64 (j:Int)) h2) (A38 h0 l0 d0 tm b3 b4 z f):=by
     intro hp h2 o c2;simp only[Zt,Ac];rw[Cj,show((j:Nat):Int)+1=((j+1:Nat):Int) by omega];exact Z (j+1) h2 (by omega) (by omega) (q hp).1 (q hp).2 o c2
    simp only[Ac];by_cases u:v = -1
    ·simp only[u,aD,aA,Aa,Ac,J6]
     exact nx (by unfold Yv;rw[aP (fun y=>y u),bA]) h G t
    ·have U:=u
     simp only[u,aN,aB,Aa,Ac];obtain⟨e,rfl⟩:∃k,e=k+1:=⟨e-1,by omega⟩;obtain⟨h2,r1,o,c2⟩:=Bgk (K:=K) H t3 t4 (e:=e) (by omega) (x:=v) G;have hc:Xq (Ae TT disp K (e+1) false) (Ae TT disp K (e+1) true) (.yld l0) [.int .i64 v] h=some (.bool (decide (¬v=z)),h2):=r1;rw[hc,As];by_cases p:v=z
     ·have hf:=P (Bqv U p)
      simp only[p,aB]at o;simp only[p,aD,aA,Aa,J6];rw[hf];exact .ret ⟨o,t.trans c2⟩
     ·have hp:=Bsf p
      simp only[p,aA]at o;simp only[p,aN,aB,Aa,J6];exact nx hp h2 o (t.trans c2)
   rcases j with _|_|j
   ·exact go x D fun hp=>⟨fun _=>hp,fun y=>by omega⟩
   ·exact go y E fun hp=>⟨fun _=>V (by omega),fun _=>hp⟩
   ·omega
  ·have:j=2:=by omega
   subst this;simp only[show decide (((2:Nat):Int)<2)=false from rfl,Aa];exact Y (V (by omega)) (jy (by omega)) h G t
theorem Bly(hK:5<K)(he:2<=e):∀(m i:Nat) (h:Ab),3-i<m->i<=3->Bdh cur By z i=false->Azu h l0 d0 tm b3 b4 z false->Av (fun j=>j=l0\/j=b4) h0 h ->
 Ok (Hn (Ae TT disp K e false) (Ae TT disp K e true) K m (.yld l0) (.agg [I (cur 0),I (By 0),I (cur 1),I (By 1),I (cur 2),I (By 2)]) (I i) h) (A38 h0 l0 d0 tm b3 b4 z (Ada cur By z)):=by
 intro m;induction m with
 | zero=>intro i h hm;omega
 | succ m E=>
  intro i h hm U n f t;rw[Hn];unfold I;simp only[Ac];by_cases q:i<3
  ·have e3:decide ((i:Int)<3)=true:=by simp;omega
   simp only[e3,Aa,Aho];have u:=fun k=>Bvy (a:=cur) (o:=By) q k
   simp only[I]at u;rw[u]
   try simp only[Aa]
   refine Ok.mk rfl rfl fun h2 p D _=>?_
   have G:Azu h2 l0 d0 tm b3 b4 z false:=⟨p.at f.hb f.lp,p.at f.hb f.c3,p.at f.hb f.c4,p.hb f.hb⟩;rw[Al D rfl (v:=I (cur i)) rfl,Al D rfl (v:=I (By i)) rfl,Ay (l:=[I (cur i),I (By i)]) rfl];refine Blh (K:=K) H t3 t4 he (fun hp=>Biy (i:=i+1) (by omega) (by show(_||(Yv (cur i) z||Yv (By i) z))=true;rw[hp];simp)) (fun hp=>Biy (i:=i+1) (by omega) (by show(_||(Yv (cur i) z||Yv (By i) z))=true;rw[hp];simp)) ?_ K 0 h2 (by omega) (by omega) (fun y=>by omega) (fun y=>by omega) G (t.trans (Ext.to p));intro J M O P c3;simp only[Mr,Ac];rw[Cj,show((i:Nat):Int)+1=((i+1:Nat):Int) by omega];exact E (i+1) O (by omega) (by omega) (by show(Bdh cur By z i||(Yv (cur i) z||Yv (By i) z))=false;rw[n,J,M];rfl) P c3
  ·have:i=3:=by omega
   subst this;simp only[show decide (((3:Nat):Int)<3)=false from rfl,Aa];rw[show Ada cur By z=false from n];exact .ret ⟨f,t⟩
end
section
variable (H:Bj disp)
include H
theorem Bjy(hd:5<=d)(hK:1000<K){ar:Nat}(hA:h.get ar=some (.cells (arC m cur By) 152))(hb:HB h)(z:Int):
 Ok (Ae TT disp K d false 55 [.ptr ar 0,I z] h) fun v h'=>v=.bool (Ada cur By z)/\Ext h h'/\HB h':=by
 obtain⟨e,rfl⟩:∃k,d=k+2:=⟨d-2,by omega⟩;rw[Aw3 H (by omega)];simp only[As5,I,Aa,Akf];have M:Ext h (((h.new (.cells [.int .i64 z] 3)).new (.cells [.bool false] 4)).new (.cells [.ptr ar 0] 100)):=((Av.new _ _).Ds _).Ds _;have n1:(((h.new (.cells [.int .i64 z] 3)).new (.cells [.bool false] 4)).new (.cells [.ptr ar 0] 100)).next=h.next+3:=rfl
 have Y:(((h.new (.cells [.int .i64 z] 3)).new (.cells [.bool false] 4)).new (.cells [.ptr ar 0] 100)).get (h.next+2)=some (.cells [.ptr ar 0] 100):=Ad _ _;have g4:(((h.new (.cells [.int .i64 z] 3)).new (.cells [.bool false] 4)).new (.cells [.ptr ar 0] 100)).get (h.next+1)=some (.cells [.bool false] 4):=by
  rw[Az _ (aL _)];exact Ad _ _
 have Z:(((h.new (.cells [.int .i64 z] 3)).new (.cells [.bool false] 4)).new (.cells [.ptr ar 0] 100)).get h.next=some (.cells [I z] 3):=by
  rw[Az _ (show h.next<h.next+2 by omega),Az _ (show h.next<h.next+1 by omega)];exact Ad _ _
 rw[show((h.new (.cells [.int .i64 z] 3)).new (.cells [.bool false] 4)).next=h.next+2 from rfl,show(h.new (.cells [.int .i64 z] 3)).next=h.next+1 from rfl];generalize ((h.new (.cells [.int .i64 z] 3)).new (.cells [.bool false] 4)).new (.cells [.ptr ar 0] 100)=f at M n1 Y g4 Z⊢;have p:=M.hb hb;generalize t:((((((Tr.nil.put 0 (some (EV.ptr ar 0))).put 1 (some (EV.int .i64 z))).put 3 (some (EV.ptr h.next 0))).put 4 (some (EV.ptr (h.next+1) 0))).put 6 (some (EV.ptr ar 0))).put 7 (some (EV.func 128 [] [EV.ptr (h.next+2) 0])))=tm;have t3:tmp tm 3=.ptr h.next 0:=by rw[<-t];simp only[Gz,reduceIte,Nat.reduceEqDiff]
 have t4:tmp tm 4=.ptr (h.next+1) 0:=by rw[<-t];simp only[Gz,reduceIte,Nat.reduceEqDiff]
 clear t;refine Ok.range ?_;rw[Att H (cQ _)];simp only[Aph,dr];have u:Ext f (Ca TT 55 12 0 tm f):=Jj;have k0:(Ca TT 55 12 0 tm f).get f.next=some (.deferred true):=Le
 have k1:(Ca TT 55 12 0 tm f).get (f.next+1)=some (Au TT 55 12 0 tm .ready none f.next):=J1;generalize Ca TT 55 12 0 tm f=U at u k0 k1⊢;have G:=u.hb p;have V:U.get ar=some (.cells (arC m cur By) 152):=u.at p (M.at hb hA);rw[Al (u.at p Y) rfl (v:=.ptr ar 0) rfl];simp only[Aa];rw[Bp V rfl (show Oy (arC m cur By) 1 6=some [I (cur 0),I (By 0),I (cur 1),I (By 1),I (cur 2),I (By 2)]from rfl)];have I3:Azu U (f.next+1) f.next tm h.next (h.next+1) z false:=⟨k1,u.at p Z,u.at p g4,G⟩
 refine(Bly (K:=K) H t3 t4 (by omega) (e:=e) (by omega) (cur:=cur) (By:=By) K 0 U (by omega) (by omega) rfl I3 (Av.refl _)).mono ?_;rintro _ h4 ⟨q,c4⟩;generalize Ada cur By z=b at q⊢;have O:=q.hb _ _ q.lp;have kd:h4.get f.next=some (.deferred true):=c4.at G k0 (by omega)
 have x4:Ext h h4:=(M.trans u).then c4 fun i P a=>by omega
 have l5:=q.hb _ _ q.c4;have n:∀(y:Ab) (b:Bool),y.get (h.next+1)=some (.cells [.bool b] 4)->Ji TT [.c (.ptr (h.next+1) 0) 4] y=some (.bool b,y):=by
  intro y b hg;have hr:K0 y (h.next+1) 0 1=some [.bool b]:=by unfold K0;rw[hg];rfl
  unfold Ji;simp only[A22,show TT.size 4=some 1 by kernel_rfl,show TT.agg 4=some false by kernel_rfl,hr]
 have lp:=q.lp;cases b with
 | true=>
  simp only[bM]at lp;refine .inr ⟨lp,?_⟩;have o:HB (h4.put (f.next+1) (Au TT 55 12 0 tm .exhausted (some .ret) f.next)):=q.hb.put O _;refine Ok.unwind (cB.2 ⟨by simp,cq⟩) (fun d hd=>by rw[aO]at hd;subst hd;rw[Ag _];exact kd) o fun J D _=>?_
  have W:J.get (h.next+1)=some (.cells [.bool true] 4):=Av.at D o (by rw[Ag _];exact q.c4) (by rw[aO];omega);rw[n J true W];exact .ret ⟨rfl,(x4.Ar (.inr (by omega)) O _).then D fun i P a=>by rw[aO]at P;omega,D.hb o⟩
 | false=>
  simp only[ak,bD]at lp;refine .inl ⟨lp,?_⟩;simp only[Ac8,dr];have o:HB (h4.put (f.next+1) (Au TT 55 12 0 tm .exhausted none f.next)):=q.hb.put O _;have g5:(h4.put (f.next+1) (Au TT 55 12 0 tm .exhausted none f.next)).get (h.next+1)=some (.cells [.bool false] 4):=by rw[Ag _];exact q.c4
  have x5:Ext h (h4.put (f.next+1) (Au TT 55 12 0 tm .exhausted none f.next)):=x4.Ar (.inr (by omega)) O _;have d5:(h4.put (f.next+1) (Au TT 55 12 0 tm .exhausted none f.next)).get f.next=some (.deferred true):=by rw[Ag _];exact kd
  generalize h4.put (f.next+1) (Au TT 55 12 0 tm .exhausted none f.next)=y at o g5 x5 d5⊢;have l6:=o _ _ g5;refine Ok.st1 g5 rfl rfl (by show 0<1;decide) ?_;have E:HB (y.put (h.next+1) (.cells ([EV.bool false].set 0 (.bool false)) 4)):=o.put l6 _;refine Ok.unwind (cB.2 ⟨by simp,cq⟩) (fun d hd=>by rw[aO]at hd;subst hd;rw[Ag _];exact d5) E fun J D _=>?_
  have W:J.get (h.next+1)=some (.cells [.bool false] 4):=Av.at D E (Af _ _ _) (by rw[aO];omega);rw[n J false W];exact .ret ⟨rfl,(x5.Ar (.inr (by omega)) l6 _).then D fun i P a=>by rw[aO]at P;omega,D.hb E⟩
end
end
section
theorem Bbn(A:Bj disp)(hK:10000<K)(M:Dd h m S F)(hb:HB h)(hd:7<=d)(z:Int)
 (o:∀h' T,Kp T h h'->(∀i,T i->¬F i)->HB h'->Ok (k (.bool (hasB S.ps S.g.D.toNat z)) h') Q):Ok (An (Ce K (.ptr m 0) h) fun v h=>An (Ae TT disp K d false 29 [v,I z] h) k) Q:=by
 obtain⟨lt,D,p,bl,ql,np,q,c,G,a⟩:=M.s;rw[Yj a.Kk,As];have f:=a.psz.nd;obtain⟨b1,b2,b3⟩:=a.psz.bd;subst f;refine(Boz (K:=K) A a.Hp hb a.psz.cap (by omega) (by omega) hd (by omega) z).An ?_;rintro _ h' ⟨rfl,t,n⟩;refine o h' _ t (fun i u y=>?_) n;obtain⟨d,hd,rfl⟩:=u;exact(a.sub.2.2.2.2.2 d hd).2.2 y
theorem Bke(hK:10000<K)(M:Dd h m S F)(hb:HB h)
 (n:∀h',Ext h h'->Ok (k (I (F7 S.ps S.g.D.toNat)) h') Q):Ok (An (Ce K (.ptr m 0) h) fun v h=>An (Hd K v h) k) Q:=by
 obtain⟨lt,D,p,bl,ql,np,q,c,G,a⟩:=M.s;rw[Yj a.Kk,As];have f:=a.psz.nd;subst f;refine(A4y (K:=K) a.Hp hb a.psz.small (by omega)).An ?_;rintro _ h' ⟨rfl,x⟩;exact n h' x
structure Qt(F:Nat->Prop)(h h':Ab):Prop where
 Qu:∃T,Kp T h h'/\∀i,T i->¬F i
 hb:HB h'
theorem Qt.refl(hb:HB h):Qt F h h:=⟨⟨fun _=>False,Kp.refl _,fun _ y=>y.elim⟩,hb⟩
theorem Qt.ext(x:Ext h h')(hb:HB h):Qt F h h':=⟨⟨fun _=>False,Ext.kp x,fun _ y=>y.elim⟩,x.hb hb⟩
theorem Qt.trans{a b c:Ab}(x:Qt F a b)(y:Qt F b c):Qt F a c:=by
 obtain⟨⟨T,k,t⟩,_⟩:=x;obtain⟨⟨U,l,u⟩,hb⟩:=y;refine⟨⟨fun i=>T i\/U i,Kp.trans ⟨k.chg.mono fun i=>.inl,k.same⟩ ⟨l.chg.mono fun i=>.inr,l.same⟩,fun i f=>f.elim (t i) (u i)⟩,hb⟩
theorem Cz.rd(C:Cz h B X F)(r:Qt F h h'):Ej h h' B X F X:=by
 obtain⟨⟨T,k,t⟩,_⟩:=r;exact C.toK k t
theorem Qt.same(r:Qt F h h')(a:i<h.next):h'.get i=h.get i:=by
 obtain⟨⟨T,k,t⟩,_⟩:=r;exact k.same i a
def Co.closed(X:Co)(z:Int):Bool:=decide (0<=Bu X.S.g z)&&(decide (¬z=X.S.a)&&(decide (¬z=X.S.b)&&(!X.S.F0 z&&(!Ada X.cur X.By z&&!hasB X.S.ps X.S.g.D.toNat z))))
theorem Aa0(A:Bj disp)(hK:10000<K)(C:Cz h B X F)(hd:8<=d){z:Int}(t:Rng z):Ok (Ae TT disp K d false 19 [.ptr B.c 0,I z] h) fun v h'=>v=.bool (X.closed z)/\Qt F h h':=by
 obtain⟨e,rfl⟩:∃k,d=k+1:=⟨d-1,by omega⟩;rw[Auh A (by omega)];simp only[Apl,Aa];rw[C.ldM,A1c C.M]
 try simp only[Aa]
 rw[C.ldM];refine(Ss (K:=K) C.M C.hb).An ?_;rintro _ h2 ⟨rfl,V⟩;refine(Lt (K:=K) C.sm z t h2).An ?_;rintro _ u ⟨rfl,W⟩;have x:Ext h u:=V.trans W;have f:=(C.toE x).C;have o:Qt F h u:=Qt.ext x C.hb;unfold Co.closed;simp only[I,Ac];have Y:Cg (.tuple []) false=false/\Cg (.tuple []) true=false:=⟨rfl,rfl⟩;by_cases c1:0<=Bu X.S.g z
 case neg=>
  simp only[c1,aA,Aa,Ac,Zm,Q0,Kg,Ho,Gc,bA];exact .ret ⟨rfl,o⟩
 simp only[c1,aB,Aa,Ac,Zm,bF];by_cases c2:z=X.S.a
 ·simp only[c2,aD,aA,Aa,Ac,Q0,Kg,Ho,Gc,bA]
  exact .ret ⟨rfl,o⟩
 simp only[c2,aN,aB,Aa,Ac,Q0,bF];by_cases c3:z=X.S.b
 ·simp only[c3,aD,aA,Aa,Ac,Kg,Ho,Gc,bA]
  exact .ret ⟨rfl,o⟩
 simp only[c3,aN,aB,Aa,Ac,bF];rw[f.ldM];refine(Qn (K:=K) f.M.s f.hb t).An ?_;rintro _ h4 ⟨rfl,E⟩;have G:Qt F h h4:=o.trans (Qt.ext E f.hb);have n:=(f.toE E).C;cases X.S.F0 z with
 | true=>
  simp only[Aa,Ac,Kg,Ho,Gc,dR,bA];exact .ret ⟨rfl,G⟩
 | false=>
 simp only[Aa,Ac,Kg,cu,bF];rw[n.Ku];have J:=Bjy (K:=K) A (d:=e) (by omega) (by omega) n.ar n.hb z;simp only[I]at J;refine J.An ?_;rintro _ Z ⟨rfl,O,_⟩;have P:Qt F h Z:=G.trans (Qt.ext O n.hb);have p:=(n.toE O).C;cases Ada X.cur X.By z with
 | true=>
  simp only[Aa,Ac,Ho,Gc,dR,bA];exact .ret ⟨rfl,P⟩
 | false=>
 simp only[Aa,Ac,Ho,cu,bF];rw[p.ldM];refine Bbn A hK p.M p.hb (d:=e) (by omega) z fun h6 T k6 t6 q=>?_
 have U:Qt F h h6:=P.trans ⟨⟨T,k6,fun i hi y=>t6 i hi (.inl y)⟩,q⟩;cases hasB X.S.ps X.S.g.D.toNat z with
 | true=>
  simp only[Aa,Ac,Gc,dR];exact .ret ⟨rfl,U⟩
 | false=>
  simp only[Aa,Ac,Gc,cu];exact .ret ⟨rfl,U⟩
def Co.dead(X:Co)(z:Int):Bool:=X.closed z&&decide (Ug X.S.g X.es z=0)
theorem Bjl(A:Bj disp)(hK:10000<K)(C:Cz h B X F)(hd:9<=d){z:Int}(n:Rng z):Ok (Ae TT disp K d false 100 [.ptr B.c 0,I z] h) fun v h'=>v=.bool (X.dead z)/\Qt F h h':=by
 obtain⟨e,rfl⟩:∃k,d=k+1:=⟨d-1,by omega⟩;rw[Ax9 A (by omega)];simp only[At7,Aa];refine(Aa0 A hK C (d:=e) (by omega) n).An ?_;rintro _ h2 ⟨rfl,a⟩;have f:=(C.rd a).C;unfold Co.dead;have o:Cg (.tuple []) false=false/\Cg (.tuple []) true=false:=⟨rfl,rfl⟩;cases X.closed z with
 | false=>
  simp only[Aa,Ac,Adm,bA];exact .ret ⟨rfl,a⟩
 | true=>
  simp only[Aa,Ac,bF];rw[f.ldB,Abo f.map];simp only[Aa,I,Ac,Adm];exact .ret ⟨rfl,a⟩
theorem Sm.Ag0(s:Sm g):3<=g.D*g.Z/\g.D*g.Z<=512:=by
 have:=s.d0;have:=s.d1;have:=s.z0;have:=s.z1;obtain⟨f,m1⟩:=Va (a:=g.D) (b:=g.Z) (A:=8) (B:=64) (by omega) (by omega) (by omega) (by omega);have:g.D*1<=g.D*g.Z:=bT (by omega) (by omega);omega
theorem Aoq(A:Bj disp)(C:Cz h B X F)(a:∀h',Ext h h'->Ok (k (I (X.S.g.D*X.S.g.Z)) h') Q):Ok (An (Ch K (.ptr B.m 0) h) fun v h=>An (Da K v h) k) Q:=by
 refine(Ss (K:=K) C.M C.hb).An ?_;rintro _ h2 ⟨rfl,f⟩;rw[Lo C.sm,As];exact a _ (f.Ds _)
end
section
theorem Bwe:(E4 TT 144 0).2.1 = [8,9]:=by kernel_rfl
def inB(z:Int)(x:Me):Bool:=decide (x.state=1)&&(decide (x.Aj=z)||decide (x.Ba=z))
def ItS(N:Nat)(i:Nat):Prop:=N<=i/\i<N+4
structure Bdt(h:Ab)(N:Nat)(tm:Ax)(l0:Nat)(stop:Bool):Prop where
 y:h.get N=some (.cells [.yld l0] 53)
 d:h.get (N+2)=some (.deferred true)
 l:h.get (N+3)=some (Au TT 144 31 0 tm (if stop then .done else .ready) (if stop then some .ret else none) (N+2))
 lt:N+4<=h.next
structure Bo4(disp:Nat->Option FT)(K e l0 zq b ml ll:Nat)(g:Gm)(es:List Me)(z:Int)(N:Nat)(Inv:Nat->Ab->Prop)(Stop:Ab->Prop):Prop where
 frI:∀j h h',Inv j h->Av (ItS N) h h'->Inv j h'
 frS:∀h h',Stop h->Av (ItS N) h h'->Stop h'
 Dx:∀j (hj:j<es.length) h,inB z es[j]=true->Inv j h->N+4<=h.next->∃more h',Ae TT disp K e true l0 [I j] h=some (.bool more,h')/\Av (fun i=>¬ItS N i) h h'/\(if more=true then Inv (j+1) h' else Stop h')
 skp:∀j (hj:j<es.length) h,inB z es[j]=false->Inv j h->Inv (j+1) h
 hbI:∀j h,Inv j h->HB h
 hbS:∀h,Stop h->HB h
 map:∀j h,Inv j h->W8 h b ml ll g es
 zon:∀j h,Inv j h->h.get zq=some (.cells [I z] 3)
section
variable (H:Bj disp){b ml ll:Nat}{es:List Me}{z:Int}{N:Nat}{Inv:Nat->Ab->Prop}(c:Bo4 disp K e l0 zq b ml ll g es z N Inv Stop)(t2:tmp tm 2=.ptr zq 0)(t3:tmp tm 3=.ptr N 0)(lz:zq<N)(he:2<=e)
include H c t2 t3 lz he
theorem Bor(hj:j<es.length)(S0:Bdt h N tm l0 false)(I0:Inv j h):
 ∃more h',Ae TT disp K (e+1) true (N+3) [I j,.agg es[j].cells] h=some (.bool more,h')/\Bdt h' N tm l0 (!more)/\(if more=true then Inv (j+1) h' else Stop h'):=by
 have W:=S0.l;simp only[ak,bD]at W;have a:=W;have hb:=c.hbI _ _ I0;have Dx:=c.Dx j hj;have skp:=c.skp j hj;generalize es[j]=x at Dx skp⊢;unfold Au at a;rw[Bwe]at a;rw[Ats H he tm h (I j) _ a,t2,t3];simp only[Ao4,Aa];rw[An9 (h:=h.new (.cells [EV.int .i64 0,.int .i64 0,.int .i64 0,.int .i64 0,.int .i64 0,.int .i64 0] 47)) (i:=h.next) (o:=0) (n:=6) (v:=.agg x.cells) (l:=[EV.int .i64 0,.int .i64 0,.int .i64 0,.int .i64 0,.int .i64 0,.int .i64 0]) (l':=x.cells) (t:=47) (Ad _ _) rfl rfl rfl];obtain⟨f,e_,u,e3,_⟩:=nP h (.cells [EV.int .i64 0,.int .i64 0,.int .i64 0,.int .i64 0,.int .i64 0,.int .i64 0] 47) (.cells x.cells 47);rw[e_];have Y:=u.hb hb;have q0:=u.at hb W;have l3:=Y _ _ q0;rw[Abi q0];have D:ItS N (N+3):=⟨by omega,by omega⟩;have c4:Av (ItS N) h (f.put (N+3) (Au TT 144 31 0 tm .busy none (N+2))):=(Ext.to (S:=ItS N) u).Ar (.inl D) l3 _;have r0:(f.put (N+3) (Au TT 144 31 0 tm .busy none (N+2))).get (N+3)=some (Au TT 144 31 0 tm .busy none (N+2)):=Af _ _ _;have E:(f.put (N+3) (Au TT 144 31 0 tm .busy none (N+2))).get N=some (.cells [.yld l0] 53):=by rw[Ag _];exact u.at hb S0.y
 have rd:(f.put (N+3) (Au TT 144 31 0 tm .busy none (N+2))).get (N+2)=some (.deferred true):=by rw[Ag _];exact u.at hb S0.d
 have P:(f.put (N+3) (Au TT 144 31 0 tm .busy none (N+2))).get h.next=some (.cells x.cells 47):=by rw[Ag _ (by have:=S0.lt;omega)];exact e3
 have G:=c.frI _ _ _ I0 c4;have J:h.next<=(f.put (N+3) (Au TT 144 31 0 tm .busy none (N+2))).next:=c4.next
 generalize f.put (N+3) (Au TT 144 31 0 tm .busy none (N+2))=h4 at c4 r0 E rd P G J⊢;have p:=c.hbI _ _ G;have rz:=c.zon _ _ G;have l4:=p _ _ r0;have Z:=S0.lt;have ao:Cg (.tuple []) false=false/\Cg (.tuple []) true=false:=⟨rfl,rfl⟩;have no:inB z x=false->∃more h',Vh (N+3) true .ready none h4=some (.bool more,h')/\Bdt h' N tm l0 (!more)/\(if more=true then Inv (j+1) h' else Stop h'):=fun hn=>by
  rw[Tm r0];refine⟨true,_,rfl,⟨by rw[Ag _];exact E,by rw[Ag _];exact rd,Af _ _ _,by rw[Ab.Si];omega⟩,?_⟩;rw[aG rfl];exact c.frI _ _ _ (skp h4 hn G) ((Av.refl (S:=ItS N) h4).Ar (.inl D) l4 _)
 have yes:inB z x=true->∃more h',An (Xq (Ae TT disp K e false) (Ae TT disp K e true) (.yld l0) [.int .i64 (j:Int)] h4) (fun aa h=>Arw aa fun ab=>Kx (Ae TT disp K e false) (Ae TT disp K e true) K (N+3) (.bool true) ab h)=some (.bool more,h')/\Bdt h' N tm l0 (!more)/\(if more=true then Inv (j+1) h' else Stop h'):=fun hy=>by
  obtain⟨more,U,e5,c5,i5⟩:=Dx h4 hy G (bN Z J);have hc:Xq (Ae TT disp K e false) (Ae TT disp K e true) (.yld l0) [.int .i64 (j:Int)] h4=some (.bool more,U):=e5;rw[hc,As];have kp:∀k o,ItS N k->h4.get k=some o->U.get k=some o:=fun k o hk g=>c5.at p g fun y=>y hk
  have q:=kp _ _ D r0;have M:=kp N _ ⟨by omega,by omega⟩ E;have O:=kp (N+2) _ ⟨by omega,by omega⟩ rd;have ae:=c5.hb p;have l5:=ae _ _ q;have ay:=c5.next
  cases more with
  | true=>
   simp only[Aa,Ac,Kx];rw[Tm q];refine⟨true,_,rfl,⟨by rw[Ag _];exact M,by rw[Ag _];exact O,Af _ _ _,by rw[Ab.Si];omega⟩,?_⟩;rw[aG rfl]at i5⊢;exact c.frI _ _ _ i5 ((Av.refl (S:=ItS N) U).Ar (.inl D) l5 _)
  | false=>
   simp only[Aa,Ac,Kx];rw[Tm q];refine⟨false,_,rfl,⟨by rw[Ag _];exact M,by rw[Ag _];exact O,Af _ _ _,by rw[Ab.Si];omega⟩,?_⟩;rw[aF (by simp)]at i5⊢;exact c.frS _ _ i5 ((Av.refl (S:=ItS N) U).Ar (.inl D) l5 _)
 simp only[Af9,Aa];rw[Al P rfl (v:=I x.state) rfl];unfold inB at no yes;simp only[I,Ac];by_cases s1:x.state=1
 case neg=>
  simp only[s1,aA,Aa,Ac,S8,Oi,N4,Kx];exact no (by rw[aP s1,bA])
 simp only[s1,aB,Aa,Ac];rw[Al P rfl (v:=I x.Aj) rfl,Al rz rfl (v:=I z) rfl];simp only[I,Ac];by_cases z1:x.Aj=z
 ·simp only[z1,aB,Aa,Ac,S8,Oi,N4]
  rw[Al E rfl (v:=.yld l0) rfl];exact yes (by rw[aM s1,aM z1];rfl)
 simp only[z1,aA,Aa,Ac,S8];rw[Al P rfl (v:=I x.Ba) rfl,Al rz rfl (v:=I z) rfl];simp only[I,Ac];by_cases V:x.Ba=z
 ·simp only[V,aB,Aa,Ac,Oi,N4]
  rw[Al E rfl (v:=.yld l0) rfl];exact yes (by rw[aM s1,aM V,Bool.or_true];rfl)
 simp only[V,aA,Aa,Ac,Oi,N4,Kx];exact no (by rw[aP z1,aP V,Bool.or_false,cS])
theorem Bsa(D:es.length<=256):∀(m i:Nat) (h:Ab),es.length-i<m->i<=es.length->Bdt h N tm l0 false->Inv i h ->
 Ok (Bq (Ae TT disp K (e+1) false) (Ae TT disp K (e+1) true) K m (.yld (N+3)) (.slice ml 0 es.length es.length false) (I es.length) (I i) h) fun _ h'=>∃stop,Bdt h' N tm l0 stop/\(if stop=true then Stop h' else Inv es.length h')/\HB h':=by
 intro m;induction m with
 | zero=>intro i h hm;omega
 | succ m q=>
  intro i h hm E S0 f;have hb:=c.hbI _ _ f;have t:=(c.map _ _ f).row;rw[Bq];simp only[I,Ac,Aa];by_cases a:i<es.length
  ·have:decide ((i:Int)<(es.length:Int))=true:=by simp;omega
   simp only[this,Aa,Eu];rw[Lv a,bJ,Bp t rfl (Avh es a)]
   try simp only[Aa]
   have rd:=fun h S0 f=>Bor (K:=K) H c t2 t3 lz he a (h:=h) S0 f
   generalize es[i]=x at rd⊢;refine Ok.mk rfl rfl fun p o e3 _=>?_
   rw[Bp e3 rfl (Ai (n:=6) rfl)];have S3:Bdt p N tm l0 false:=⟨o.at hb S0.y,o.at hb S0.d,o.at hb S0.l,bN S0.lt o.next⟩;obtain⟨more,h4,u,S4,i4⟩:=rd p S3 (c.frI _ _ _ f (Ext.to o));have v:Xq (Ae TT disp K (e+1) false) (Ae TT disp K (e+1) true) (.yld (N+3)) [.int .i64 (i:Int),.agg x.cells] p=some (.bool more,h4):=u;rw[v,As];cases more with
   | false=>
    simp only[Aa];rw[aF (by simp)]at i4;refine .ret ⟨true,S4,by rw[aG rfl];exact i4,?_⟩;exact c.hbS _ i4
   | true=>
    simp only[Aa,Et,Ac];rw[aG rfl]at i4;rw[Cj,show((i:Nat):Int)+1=((i+1:Nat):Int) by omega];exact q (i+1) h4 (by omega) (by omega) S4 i4
  ·have:decide ((i:Int)<(es.length:Int))=false:=by simp;omega
   have:i=es.length:=by omega
   subst this;simp only[Aa,aA,Int.lt_irrefl];exact .ret ⟨false,S0,by rw[aF (by simp)];exact f,hb⟩
end
theorem Bvt(H:Bj disp)(hK:1000<K){G b ml ll:Nat}{es:List Me}{z:Int}{Inv:Nat->Ab->Prop}(c:Bo4 disp K e l0 zq b ml ll g es z h0.next Inv Stop)(he:2<=e)(s:Sm g)(Z:h0.get G=some (.cells [.ptr b 0] 43))(u:Inv 0 h0):
 Ok (Ae TT disp K (e+3) false 144 [.yld l0,.ptr G 0,.ptr zq 0] h0) fun v h'=>v=.tuple []/\(Inv es.length h'\/Stop h'):=by
 have:=s.b0;have:=s.b1;have hb:=c.hbI _ _ u;have mp:=c.map _ _ u;have gz:=c.zon _ _ u;have hlen:=mp.len;have lz:=hb _ _ gz;have lm:=hb _ _ mp.row;rw[Azh H (by omega)];simp only[Awh,dr];rw[Bry rfl];obtain⟨a,e_,y,y1,n1⟩:=nW h0 (.cells (EV.yld l0).cells 53);rw[e_];have o:=y.hb hb;rw[Al (y.at hb Z) rfl (v:=.ptr b 0) rfl];simp only[Tc,Aa,Ei];rw[Al (y.at hb mp.map) rfl (v:=.slice ml 0 g.B.toNat g.B.toNat false) rfl,<-hlen];simp only[Aa];have D:Ext a (a.new (.cells [.slice ml 0 es.length es.length false] 113)):=Av.new _ _;have V:(a.new (.cells [.slice ml 0 es.length es.length false] 113)).get a.next=some (.cells [.slice ml 0 es.length es.length false] 113):=Ad _ _
 have W:(a.new (.cells [.slice ml 0 es.length es.length false] 113)).next=h0.next+2:=by rw[Ab.D8,n1]
 generalize a.new (.cells [.slice ml 0 es.length es.length false] 113)=h2 at D V W⊢;have p:=D.hb o;generalize f:(((((Tr.nil.put 0 (some (EV.yld l0))).put 1 (some (EV.ptr G 0))).put 2 (some (EV.ptr zq 0))).put 3 (some (EV.ptr h0.next 0))).put 6 (some (EV.ptr b 0))).put 7 (some (EV.func 104 [] [EV.ptr a.next 0]))=tm;have t2:tmp tm 2=.ptr zq 0:=by rw[<-f];simp only[Gz,reduceIte,Nat.reduceEqDiff]
 have t3:tmp tm 3=.ptr h0.next 0:=by rw[<-f];simp only[Gz,reduceIte,Nat.reduceEqDiff]
 clear f;refine Ok.range ?_;have q:Ext h2 (Ca TT 144 31 0 tm h2):=Jj;have J:(Ca TT 144 31 0 tm h2).get h2.next=some (.deferred true):=Le
 have M:(Ca TT 144 31 0 tm h2).get (h2.next+1)=some (Au TT 144 31 0 tm .ready none h2.next):=J1;have n3:(Ca TT 144 31 0 tm h2).next=h2.next+2:=rfl
 generalize Ca TT 144 31 0 tm h2=O at q J M n3⊢;have af:=q.hb p;rw[W]at J M n3⊢;have P:Ext h0 O:=(y.trans D).trans q;rw[Gs H (cQ _)];simp only[Fq,dr];rw[Al (q.at p V) rfl (v:=.slice ml 0 es.length es.length false) rfl];simp only[Aa];have S3:Bdt O h0.next tm l0 false:=⟨Ext.at (D.trans q) o y1,J,M,by omega⟩
 have I3:=c.frI _ _ _ u (Ext.to P);refine(Bsa (K:=K) H c t2 t3 lz he (by omega) K 0 O (by omega) (by omega) S3 I3).mono ?_;rintro _ h4 ⟨stop,S4,i4,n⟩;have lp:=S4.l;have E:=n _ _ lp;have ah:=S4.lt;have sd:ItS h0.next (h0.next+2):=⟨by omega,by omega⟩
 have Y:ItS h0.next (h0.next+3):=⟨by omega,by omega⟩
 cases stop with
 | true=>
  simp only[bM]at lp i4;refine .inr ⟨lp,?_⟩;have d5:(h4.put (h0.next+2+1) (Au TT 144 31 0 tm .exhausted (some .ret) (h0.next+2))).get (h0.next+2)=some (.deferred true):=by rw[Ag _];exact S4.d
  refine Ok.unwind (cB.2 ⟨by simp,cq⟩) (fun d hd=>by rw[aO]at hd;subst hd;exact d5) (n.put E _) fun h6 U _=>?_
  refine .ret ⟨rfl,.inr (c.frS _ _ i4 (((Av.refl (S:=ItS h0.next) h4).Ar (.inl Y) E _).trans (U.mono fun i t=>by rw[aO]at t;subst t;exact sd)))⟩
 | false=>
  simp only[ak,bD]at lp i4;refine .inl ⟨lp,?_⟩;have d5:(h4.put (h0.next+2+1) (Au TT 144 31 0 tm .exhausted none (h0.next+2))).get (h0.next+2)=some (.deferred true):=by rw[Ag _];exact S4.d
  refine Ok.unwind (cB.2 ⟨by simp,cq⟩) (fun d hd=>by rw[aO]at hd;subst hd;exact d5) (n.put E _) fun h6 U _=>?_
  refine .ret ⟨rfl,.inl (c.frI _ _ _ i4 (((Av.refl (S:=ItS h0.next) h4).Ar (.inl Y) E _).trans (U.mono fun i t=>by rw[aO]at t;subst t;exact sd)))⟩
end
section
theorem Qt.Axe(q:Qt F h0 h)(c:Av T h h')(t:∀i,T i->h0.next<=i):Qt F h0 h':=by
 obtain⟨⟨U,k,u⟩,hb⟩:=q;exact⟨⟨U,k.A9n c t,u⟩,c.hb hb⟩
theorem Ok.Au0(H:Bj disp)(hK:1000<K){a b ml ll:Nat}{es:List Me}{z:Int}{Inv:Nat->Ab->Prop}{fn n:Nat}{ds:List Nat}{k:Ab->List Nat->R}{ret:Ab->List Nat->R}
 (c:Bo4 disp K e (h.next+1) zq b ml ll g es z (h.next+2) Inv Stop) (he:2<=e) (s:Sm g) (f:h.get a=some (.cells [.ptr b 0] 43)) (hb:HB h) (o:Inv 0 (Ca TT fn n i tm h))
 (p:∀h',Inv es.length h'->h'.get (h.next+1)=some (Au TT fn n i tm .ready none h.next)/\Ok (k (h'.put (h.next+1) (Au TT fn n i tm .exhausted none h.next)) (h.next::ds)) Q)
 (q:∀h',Stop h'->h'.get (h.next+1)=some (Au TT fn n i tm .done (some .ret) h.next)/\Ok (ret (h'.put (h.next+1) (Au TT fn n i tm .exhausted (some .ret) h.next)) (h.next::ds)) Q) :
 Ok (Zk (Ae TT disp K (e+3) false) TT fn n i (.func 144 [] [.ptr a 0,.ptr zq 0]) tm h ds k ex ret) Q:=by
 refine Ok.range ((Bvt (K:=K) H hK (h0:=Ca TT fn n i tm h) c he s (Jj.at hb f) o).mono ?_);rintro _ h' ⟨rfl,y|y⟩
 ·exact .inl (p h' y)
 ·exact .inr (q h' y)
def Ayp(S:Mi)(x:Me):Bool:=!S.F0 x.Aj&&!S.F0 x.Ba
def Ag8(S:Mi)(z:Int)(es:List Me):Bool:=es.all fun x=>!inB z x||Ayp S x
theorem A5d{z:Int}{es:List Me}(hj:j<es.length):Ag8 S z (es.take (j+1))=(Ag8 S z (es.take j)&&(!inB z es[j]||Ayp S es[j])):=by
 unfold Ag8;rw[eh,List.all_append,aC hj];simp
theorem Bow{z:Int}{es:List Me}(hj:j<es.length)(a:inB z es[j]=true)(f:Ayp S es[j]=false):Ag8 S z es=false:=by
 unfold Ag8;rw[List.all_eq_false];exact⟨es[j],av hj,by rw[a,f];simp⟩
structure A9q(F:Nat->Prop)(h0 h:Ab)(l0:Nat)(tm:Ax)(B:Cb)(zq:Nat)(z:Int)(stop:Bool):Prop where
 q:Qt F h0 h
 lp:h.get l0=some (Au TT 80 40 0 tm (if stop then .done else .ready) (if stop then some .ret else none) (l0-1))
 dd:h.get (l0-1)=some (.deferred true)
 c2:h.get h0.next=some (.cells [.ptr B.c 0] 26)
 c4:h.get (h0.next+1)=some (.cells [.bool false] 4)
 zq:h.get zq=some (.cells [I z] 3)
theorem A9q.chg{z:Int}{stop:Bool}(w:A9q F h0 h l0 tm B zq z stop)(c:Av T h h')(t:∀i,T i->l0<i)(l:h0.next+1<l0)(lz:zq<l0):A9q F h0 h' l0 tm B zq z stop:=by
 have kp:∀i o,h.get i=some o->i<=l0->h'.get i=some o:=fun i o g a=>c.at w.q.hb g fun y=>by have:=t i y;omega
 exact⟨w.q.Axe c fun i a=>by have:=t i a;omega,kp _ _ w.lp (aE _),kp _ _ w.dd (by omega),kp _ _ w.c2 (by omega),kp _ _ w.c4 (by omega),kp _ _ w.zq (by omega)⟩
theorem Bwd:(E4 TT 80 0).2.1 = [14]:=by kernel_rfl
theorem Br6 {es:List Me}(hj:j<es.length):Atk es (j:Int)=(es[j],0):=by
 unfold Atk;rw[aG ⟨by omega,by omega⟩,aZ,aC hj];rfl
theorem Ba9(s:Sm g){x:Me}(h:meR g x=true):Rng x.Aj/\Rng x.Ba:=by
 obtain⟨_,a,b,_⟩:=Bph s h;exact⟨⟨by omega,by omega⟩,⟨by omega,by omega⟩⟩
section
variable (A:Bj disp)(hK:10000<K)(C:Cz h0 B X F)
include A C
theorem Bcc{z:Int}(t2:tmp tm 2=.ptr h0.next 0)(t4:tmp tm 4=.ptr (h0.next+1) 0)(l:h0.next+1<l0)(lz:zq<l0)(nz:h0.next+1<zq)(he:4<=e)(hj:j<X.es.length)(D:A9q F h0 h l0 tm B zq z false):
 Ok (Ae TT disp K e true l0 [I j] h) fun v h'=>v=.bool (Ayp X.S X.es[j])/\Av (fun i=>i=l0\/i=h0.next+1) h h'/\A9q F h0 h' l0 tm B zq z (!Ayp X.S X.es[j]):=by
 obtain⟨e,rfl⟩:∃k,e=k+1:=⟨e-1,by omega⟩;have hg:=D.lp;simp only[ak,bD]at hg;have E:=hg;unfold Au at E;rw[Bwd]at E;rw[Aqa A (by omega) tm h (I j) E,t2,t4];have hb:=D.q.hb;have P:=hb _ _ hg;simp only[Aj3,Abi hg,Aco,dr];have n4:l0≠h0.next+1:=by omega
 have c1:Av (fun i=>i=l0\/i=h0.next+1) h (h.put l0 (Au TT 80 40 0 tm .busy none (l0-1))):=(Av.refl h).Ar (.inl (.inl rfl)) P _;have g0:(h.put l0 (Au TT 80 40 0 tm .busy none (l0-1))).get l0=some (Au TT 80 40 0 tm .busy none (l0-1)):=Af _ _ _;have kp:∀i o,h.get i=some o->i≠l0->(h.put l0 (Au TT 80 40 0 tm .busy none (l0-1))).get i=some o:=fun i o g U=>by rw[Ag _ (cV U)];exact g
 have gd:=kp _ _ D.dd (by omega);have G:=kp _ _ D.c2 (by omega);have g4:=kp _ _ D.c4 (by omega);have gz:=kp _ _ D.zq (by omega);have q1:Qt F h0 (h.put l0 (Au TT 80 40 0 tm .busy none (l0-1))):=D.q.Axe ((Av.refl (S:=fun i=>i=l0) h).Ar (.inl rfl) P _) fun i U=>by omega
 clear kp;generalize h.put l0 (Au TT 80 40 0 tm .busy none (l0-1))=h1 at c1 g0 gd G g4 gz q1⊢;have t:=(C.rd q1).C;rw[Al G rfl (v:=.ptr B.c 0) rfl];simp only[Aa];rw[t.ldB];refine(Qh (K:=K) C.sm t.map t.hb j).An ?_;rintro _ h2 ⟨rfl,x2⟩;rw[Br6 hj];have hx:=C.map.ok _ (av hj);obtain⟨r1,r2⟩:=Ba9 C.sm hx;unfold Ayp;generalize X.es[j]=x at r1 r2⊢;simp only[Aa];have ah:=x2.hb t.hb;refine Ok.mk rfl rfl fun h3 x3 e3 _=>?_
 have J:=x2.trans x3;have a:=x3.hb ah;have V:∀{i o},h1.get i=some o->h3.get i=some o:=fun g=>Ext.at J t.hb g
 have C3:=(t.toE J).C;have l2:=a _ _ (V G);have lc:=a _ _ C3.core;have le:=a _ _ e3;rw[Ku l2,Al (V G) rfl (v:=.ptr B.c 0) rfl];simp only[Aa,Aw];rw[Ku lc,C3.ldM];simp only[Aa,Aw];rw[Ku le,Al e3 rfl (v:=I x.Aj) rfl];simp only[Aa,Aw];refine Ok.bE (Qn (K:=K) (C3.M.same (Asm.lift _)).s (D4 a) r1) (fun _ _ p=>p.2) ?_;rintro _ a3 h4 ⟨rfl,_⟩ _ x4;have al:=x4.hb a;have u:=J.trans x4;have fin:∀(b:Bool) (y:Ab),Ext h1 y->Ok (Dj (Ae TT disp K e false) (Ae TT disp K e true) K l0 h3.next ⟨0,[],[],[],[]⟩ (.ptr (h0.next+1) 0) (.bool (!b)) (.bool (!b)) y) fun v h'=>v=.bool b/\Av (fun i=>i=l0\/i=h0.next+1) h h'/\A9q F h0 h' l0 tm B zq z (!b):=fun b y O=>by
  have W:=O.hb t.hb;have f:∀{i o},h1.get i=some o->y.get i=some o:=fun g=>Ext.at O t.hb g
  have q5:=q1.trans (Qt.ext O t.hb);have l5:=W _ _ (f g0);have Y:=W _ _ (f g4);have c5:=c1.trans (Ext.to O);cases b with
  | true=>
   simp only[Dj,dR,Aa,Ac];rw[Tm (f g0)];exact .ret ⟨rfl,c5.Ar (.inl (.inl rfl)) l5 _,q5.Axe ((Av.refl (S:=fun i=>i=l0) y).Ar (.inl rfl) l5 _) (fun i U=>by omega),Af _ _ _,by rw[Ag _];exact f gd,by rw[Ag _];exact f G,by rw[Ag _];exact f g4,by rw[Ag _];exact f gz⟩
  | false=>
   simp only[Dj,cu,Aa,Ac];rw[An9 (o:=0) (n:=1) (v:=.bool false) (l':=[.bool false]) (f g4) rfl rfl rfl,Tm (by rw[Ag _ (cV n4)];exact f g0)];exact .ret ⟨rfl,(c5.Ar (.inl (.inr rfl)) Y _).Ar (.inl (.inl rfl)) l5 _,q5.Axe (((Av.refl (S:=fun i=>h0.next<=i) y).Ar (.inl (by omega)) Y _).Ar (.inl (by omega)) l5 _) (fun i U=>U),Af _ _ _,
    by rw[Ag _,Ag _];exact f gd,by rw[Ag _,Ag _];exact f G,by rw[Ag _];exact Af _ _ _,by rw[Ag _,Ag _];exact f gz⟩
 cases X.S.F0 x.Aj with
 | true=>
  have:=fin false h4 u;simp only[Dj,cu,Aa,Ac]at this;simp only[Aa,Ac,Dj,dR,bA];exact this
 | false=>
 simp only[Aa,Ac,cu,bF];have ao:∀{i o},h1.get i=some o->h4.get i=some o:=fun g=>Ext.at u t.hb g
 have C4:=(t.toE u).C;rw[Ku l2,Al (ao G) rfl (v:=.ptr B.c 0) rfl];simp only[Aa,Aw];rw[Ku lc,C4.ldM];simp only[Aa,Aw];rw[Ku le,Al (x4.at a e3) rfl (v:=I x.Ba) rfl];simp only[Aa,Aw];refine Ok.bE (Qn (K:=K) (C4.M.same (Asm.lift _)).s (D4 al) r2) (fun _ _ p=>p.2) ?_;rintro _ a6 y ⟨rfl,_⟩ _ O;have Z:=u.trans O;cases X.S.F0 x.Ba with
 | true=>
  have:=fin false y Z;simp only[Dj,cu,Aa,Ac]at this;simp only[Aa,Ac,Dj,dR];exact this
 | false=>
  have:=fin true y Z;simp only[Dj,dR,Aa,Ac]at this;simp only[Aa,Ac,Dj,cu];exact this
include hK
theorem Bm8(hd:8<=d)(z:Int):Ok (Ae TT disp K d false 80 [.ptr B.c 0,I z] h0) fun v h'=>v=.bool (Ag8 X.S z X.es)/\Qt F h0 h':=by
 obtain⟨e,rfl⟩:∃k,d=k+3+1:=⟨d-4,by omega⟩;rw[Avm A (by omega)];simp only[Arj,Aa];have hb:=C.hb;have M:Ext h0 ((h0.new (.cells [.ptr B.c 0] 26)).new (.cells [.bool false] 4)):=(Av.new _ _).Ds _;have E:((h0.new (.cells [.ptr B.c 0] 26)).new (.cells [.bool false] 4)).next=h0.next+2:=rfl
 have U:((h0.new (.cells [.ptr B.c 0] 26)).new (.cells [.bool false] 4)).get h0.next=some (.cells [.ptr B.c 0] 26):=by rw[Az _ (aL _)];exact Ad _ _
 have g4:((h0.new (.cells [.ptr B.c 0] 26)).new (.cells [.bool false] 4)).get (h0.next+1)=some (.cells [.bool false] 4):=Ad _ _;rw[show(h0.new (.cells [.ptr B.c 0] 26)).next=h0.next+1 from rfl];generalize (h0.new (.cells [.ptr B.c 0] 26)).new (.cells [.bool false] 4)=n at M E U g4⊢;have p:=M.hb hb;have C1:=(C.toE M).C;rw[Al U rfl (v:=.ptr B.c 0) rfl];simp only[Aa];rw[C1.ldB];simp only[Afm,Aa,I];have G:Ext n ((n.new (.cells [.ptr B.b 0] 43)).new (.cells [.int .i64 z] 3)):=(Av.new _ _).Ds _;have n2:((n.new (.cells [.ptr B.b 0] 43)).new (.cells [.int .i64 z] 3)).next=h0.next+4:=by rw[Ab.D8,Ab.D8,E]
 have gv:((n.new (.cells [.ptr B.b 0] 43)).new (.cells [.int .i64 z] 3)).get (h0.next+2)=some (.cells [.ptr B.b 0] 43):=by rw[<-E,Az _ (aL _)];exact Ad _ _
 have gz:((n.new (.cells [.ptr B.b 0] 43)).new (.cells [.int .i64 z] 3)).get (h0.next+3)=some (.cells [I z] 3):=by rw[show h0.next+3=(n.new (.cells [.ptr B.b 0] 43)).next by rw[Ab.D8,E]];exact Ad _ _
 rw[show(n.new (.cells [.ptr B.b 0] 43)).next=h0.next+3 by rw[Ab.D8,E],E];generalize (n.new (.cells [.ptr B.b 0] 43)).new (.cells [.int .i64 z] 3)=h2 at G n2 gv gz⊢;have f:=G.hb p;have V:Ext h0 h2:=M.trans G;generalize t:(((((((((Tr.nil.put 0 (some (EV.ptr B.c 0))).put 1 (some (EV.int .i64 z))).put 2 (some (EV.ptr h0.next 0))).put 4 (some (EV.ptr (h0.next+1) 0))).put 8 (some (EV.ptr B.c 0))).put 9 (some (EV.ptr B.c 0))).put 10 (some (EV.ptr B.c 2))).put 11 (some (EV.ptr B.b 0))).put 12 (some (EV.int .i64 z))).put 13 (some (EV.func 144 [] [EV.ptr (h0.next+2) 0,EV.ptr (h0.next+3) 0]))=tm;have t2:tmp tm 2=.ptr h0.next 0:=by rw[<-t];simp only[Gz,reduceIte,Nat.reduceEqDiff]
 have t4:tmp tm 4=.ptr (h0.next+1) 0:=by rw[<-t];simp only[Gz,reduceIte,Nat.reduceEqDiff]
 clear t;have nl:h2.next+1=h0.next+5:=by omega
 have hlen:=C.map.len;have cl:Bo4 disp K e (h2.next+1) (h0.next+3) B.b B.ml B.ll X.S.g X.es z (h2.next+2) (fun j h=>A9q F h0 h (h2.next+1) tm B (h0.next+3) z false/\Ag8 X.S z (X.es.take j)=true) (fun h=>A9q F h0 h (h2.next+1) tm B (h0.next+3) z true/\Ag8 X.S z X.es=false):=by
  refine⟨fun j h h' w c=>⟨w.1.chg c (fun i a=>by have:=a.1;omega) (by omega) (by omega),w.2⟩,fun h h' w c=>⟨w.1.chg c (fun i a=>by have:=a.1;omega) (by omega) (by omega),w.2⟩,fun j hj h a w _=>?_,fun j hj h a w=>⟨w.1,?_⟩,fun j h w=>w.1.q.hb,fun h w=>w.1.q.hb,fun j h w=>(C.rd w.1.q).C.map,fun j h w=>w.1.zq⟩
  ·obtain⟨v,h',e1,rfl,c,w'⟩:=Bcc (K:=K) A C t2 t4 (l0:=h2.next+1) (zq:=h0.next+3) (by omega) (by omega) (by omega) (e:=e) (by omega) hj w.1
   refine⟨_,h',e1,c.mono fun i a y=>?_,?_⟩
   ·have:=y.1;omega
   ·cases O:Ayp X.S X.es[j]with
    | true=>
     rw[aG rfl];rw[O]at w';exact⟨w',by rw[A5d hj,w.2,O];simp⟩
    | false=>
     rw[aF (by simp)];rw[O]at w';exact⟨w',Bow hj a O⟩
  ·rw[A5d hj,w.2,a];rfl
 have P:Ext h2 (Ca TT 80 40 0 tm h2):=Jj;have I0:A9q F h0 (Ca TT 80 40 0 tm h2) (h2.next+1) tm B (h0.next+3) z false:=⟨Qt.ext (V.trans P) hb,J1,Le,P.at f (G.at p U),P.at f (G.at p g4),P.at f gz⟩;refine Ok.Au0 (K:=K) A (by omega) cl (by omega) C.sm gv f ⟨I0,rfl⟩ (fun o w=>⟨w.1.lp,?_⟩) fun o w=>⟨w.1.lp,?_⟩
 ·have w2:=w.2
  rw[cN]at w2;rw[w2];have u:=w.1.q.hb;have W:=u _ _ w.1.lp;have D:Qt F h0 (o.put (h2.next+1) (Au TT 80 40 0 tm .exhausted none h2.next)):=w.1.q.Axe ((Av.refl (S:=fun i=>i=h2.next+1) o).Ar (.inl rfl) W _) fun i a=>by omega
  have g4:(o.put (h2.next+1) (Au TT 80 40 0 tm .exhausted none h2.next)).get (h0.next+1)=some (.cells [.bool false] 4):=by rw[Ag _];exact w.1.c4
  have gd:(o.put (h2.next+1) (Au TT 80 40 0 tm .exhausted none h2.next)).get h2.next=some (.deferred true):=by rw[Ag _];exact w.1.dd
  generalize o.put (h2.next+1) (Au TT 80 40 0 tm .exhausted none h2.next)=h4 at D g4 gd⊢;have l4:=D.hb _ _ g4;simp only[Aay,dr];refine Ok.st1 g4 rfl rfl (by show 0<1;decide) ?_;have q5:Qt F h0 (h4.put (h0.next+1) (.cells ([EV.bool false].set 0 (.bool true)) 4)):=D.Axe ((Av.refl (S:=fun i=>i=h0.next+1) h4).Ar (.inl rfl) l4 _) fun i a=>by omega
  refine Ok.unwind (cB.2 ⟨by simp,cq⟩) (fun d hd=>by rw[aO]at hd;subst hd;rw[Ag _];exact gd) q5.hb fun Y J _=>?_
  have Z:Y.get (h0.next+1)=some (.cells [.bool true] 4):=Av.at J q5.hb (Af _ _ _) (by rw[aO];omega);rw[Ai9 Z];exact .ret ⟨rfl,q5.Axe J fun i a=>by rw[aO]at a;omega⟩
 ·rw[w.2]
  have u:=w.1.q.hb;have W:=u _ _ w.1.lp;have D:Qt F h0 (o.put (h2.next+1) (Au TT 80 40 0 tm .exhausted (some .ret) h2.next)):=w.1.q.Axe ((Av.refl (S:=fun i=>i=h2.next+1) o).Ar (.inl rfl) W _) fun i a=>by omega
  refine Ok.unwind (cB.2 ⟨by simp,cq⟩) (fun d hd=>by rw[aO]at hd;subst hd;rw[Ag _];exact w.1.dd) D.hb fun Y J _=>?_
  have Z:Y.get (h0.next+1)=some (.cells [.bool false] 4):=Av.at J D.hb (by rw[Ag _];exact w.1.c4) (by rw[aO];omega);rw[Ai9 Z];exact .ret ⟨rfl,D.Axe J fun i a=>by rw[aO]at a;omega⟩
end
end
section
def blN(z:Int)(es:List Me)(j:Nat):List Nat:=(List.range j).filter fun i=>inB z ((es[i]?).getD (Me.nil 0))
theorem Buq {z:Int}{es:List Me}(hj:j<es.length)(h:inB z es[j]=true):blN z es (j+1)=blN z es j++[j]:=by
 unfold blN;rw[dA,eT,eP,aC hj];simp[h]
theorem Bvr {z:Int}{es:List Me}(hj:j<es.length)(h:inB z es[j]=false):blN z es (j+1)=blN z es j:=by
 unfold blN;rw[dA,eT,eP,aC hj];simp[h]
theorem Bo7(z:Int)(es:List Me)(j:Nat):(blN z es j).length<=j:=by
 unfold blN;have:=eU (fun i=>inB z ((es[i]?).getD (Me.nil 0))) (List.range j);simpa using this
def nI(i:Nat):EV:=I (i:Int)
structure Bfg(F:Nat->Prop)(h0 h:Ab)(l0:Nat)(tm:Ax)(zq:Nat)(z:Int)(L:List Nat):Prop where
 q:Qt F h0 h
 lp:h.get l0=some (Au TT 73 19 0 tm .ready none (l0-1))
 dd:h.get (l0-1)=some (.deferred true)
 zq:h.get zq=some (.cells [I z] 3)
 row:∃s qr,h.get h0.next=some (.cells [s] 28)/\Cs h s qr 3 1 L.length (L.map nI)/\(0<L.length->l0+5<=qr)
theorem Bfg.chg{z:Int}(w:Bfg F h0 h l0 tm zq z L)(c:Av T h h')(t:∀i,T i->l0<i/\i<l0+5)(l:h0.next<l0)(lz:zq<l0):Bfg F h0 h' l0 tm zq z L:=by
 have kp:∀i o,h.get i=some o->i<=l0->h'.get i=some o:=fun i o g a=>c.at w.q.hb g fun y=>by have:=t i y;omega
 obtain⟨s,qr,p,f,n⟩:=w.row;exact⟨w.q.Axe c fun i a=>by have:=t i a;omega,kp _ _ w.lp (aE _),kp _ _ w.dd (by omega),kp _ _ w.zq (by omega),s,qr,kp _ _ p (by omega),f.frame fun y=>c.get _ (w.q.hb _ _ (f.block y)) fun u=>by have:=t _ u;have:=n y;omega,n⟩
theorem Bv4:(E4 TT 73 0).2.1 = [13]:=by kernel_rfl
section
variable (A:Bj disp)(hK:10000<K)
include A
theorem A88{z:Int}(t5:tmp tm 5=.ptr h0.next 0)(l:h0.next+1<l0)(lz:zq<l0)(nz:h0.next<zq)(he:2<=e)(hL:L.length<=256)(nx:l0+5<=h.next)(p:Bfg F h0 h l0 tm zq z L):
 Ok (Ae TT disp K e true l0 [I j] h) fun v h'=>v=.bool true/\Av (fun i=>¬(l0<i/\i<l0+5)) h h'/\Bfg F h0 h' l0 tm zq z (L++[j]):=by
 obtain⟨e,rfl⟩:∃k,e=k+1:=⟨e-1,by omega⟩;have O:=p.lp;have n:=O;unfold Au at n;rw[Bv4]at n;rw[Apa A (by omega) tm h (I j) n,t5];have hb:=p.q.hb;have P:=hb _ _ O;simp only[Aib,Abi O,Abd,dr];obtain⟨s,qr,Z,r2,M⟩:=p.row;have c1:Av (fun i=>i=l0) h (h.put l0 (Au TT 73 19 0 tm .busy none (l0-1))):=(Av.refl (S:=fun i=>i=l0) h).Ar (.inl rfl) P _;have U:(h.put l0 (Au TT 73 19 0 tm .busy none (l0-1))).get l0=some (Au TT 73 19 0 tm .busy none (l0-1)):=Af _ _ _;have kp:∀i o,h.get i=some o->i≠l0->(h.put l0 (Au TT 73 19 0 tm .busy none (l0-1))).get i=some o:=fun i o g f=>by rw[Ag _ (cV f)];exact g
 have gd:=kp _ _ p.dd (by omega);have g5:=kp _ _ Z (by omega);have Y:=kp _ _ p.zq (by omega);have rr:=r2.frame (h':=h.put l0 (Au TT 73 19 0 tm .busy none (l0-1))) fun y=>Ag _ (by have:=M y;omega)
 have V:(h.put l0 (Au TT 73 19 0 tm .busy none (l0-1))).next=h.next:=rfl
 have t:Qt F h0 (h.put l0 (Au TT 73 19 0 tm .busy none (l0-1))):=p.q.Axe c1 fun i f=>by omega
 clear kp;generalize h.put l0 (Au TT 73 19 0 tm .busy none (l0-1))=u at c1 U gd g5 Y rr V t⊢;rw[Al g5 rfl (v:=s) rfl];refine Qe (z:=[.int .i64 0]) (v:=I j) rr t.hb rfl rfl rfl (by omega) (by omega) fun h2 D ab c2=>?_
 have E:=c2.hb t.hb;have G:∀i o,u.get i=some o->i<=l0->h2.get i=some o:=fun i o g f=>c2.at t.hb g fun y=>by have:=M y.1;omega
 have J:=G _ _ g5 (by omega);have l5:=E _ _ J;have W:=E _ _ (G _ _ U (aE _));refine Ok.st1 J rfl rfl (by show 0<1;decide) ?_;rw[Tm (by rw[Ag _];exact G _ _ U (aE _))];have c3:Av (fun i=>i=l0\/i=h0.next) h2 ((h2.put h0.next (.cells ([s].set 0 (.slice (u.next+1) 0 (L.length+1) (L.length+1) true)) 28)).put l0 (Au TT 73 19 0 tm .ready none (l0-1))):=((Av.refl h2).Ar (.inl (.inr rfl)) l5 _).Ar (.inl (.inl rfl)) W _;have same:∀i,i≠l0->i≠h0.next->((h2.put h0.next (.cells ([s].set 0 (.slice (u.next+1) 0 (L.length+1) (L.length+1) true)) 28)).put l0 (Au TT 73 19 0 tm .ready none (l0-1))).get i=h2.get i:=fun i a b=>by rw[Ag _ (cV a),Ag _ (cV b)]
 refine .ret ⟨rfl,?_,?_,?_,?_,?_,?_⟩
 ·refine((c1.mono fun i f y=>?_).trans (c2.mono fun i f y=>?_)).trans (c3.mono fun i f y=>?_)
  ·omega
  ·have:=M f.1;omega
  ·omega
 ·refine(t.Axe c2 fun i f=>?_).Axe c3 fun i f=>by omega
  have:=M f.1;omega
 ·exact Af _ _ _
 ·rw[same _ (by omega) (by omega)];exact G _ _ gd (by omega)
 ·rw[same _ (by omega) (by omega)];exact G _ _ Y (by omega)
 ·refine⟨.slice (u.next+1) 0 (L.length+1) (L.length+1) true,u.next+1,?_,?_,fun _=>by omega⟩
  ·rw[Ag _];exact Af _ _ _
  ·rw[aH,cX]
   exact Cs.frame D fun _=>same _ (by omega) (by omega)
include hK
theorem Bml(C:Cz h0 B X F)(hd:8<=d)(z:Int):Ok (Ae TT disp K d false 73 [.ptr B.c 0,I z] h0) fun v h'=>Qt F h0 h'/\∃qr,Cs h' v qr 3 1 (blN z X.es X.es.length).length ((blN z X.es X.es.length).map nI)/\(0<(blN z X.es X.es.length).length->h0.next<=qr):=by
 obtain⟨e,rfl⟩:∃k,d=k+3+1:=⟨d-4,by omega⟩;rw[Atd A (by omega)];simp only[Aom,Aa];have hb:=C.hb;obtain⟨f,Y,G,g5,p⟩:=nW h0 (.cells [.Ao] 28);rw[Y];have t:=G.hb hb;have Z:=(C.toE G).C;rw[Z.ldB];simp only[Afm,Aa,I];have D:Ext f ((f.new (.cells [.ptr B.b 0] 43)).new (.cells [.int .i64 z] 3)):=(Av.new _ _).Ds _;have n2:((f.new (.cells [.ptr B.b 0] 43)).new (.cells [.int .i64 z] 3)).next=h0.next+3:=by rw[Ab.D8,Ab.D8,p]
 have U:((f.new (.cells [.ptr B.b 0] 43)).new (.cells [.int .i64 z] 3)).get (h0.next+1)=some (.cells [.ptr B.b 0] 43):=by rw[<-p,Az _ (aL _)];exact Ad _ _
 have V:((f.new (.cells [.ptr B.b 0] 43)).new (.cells [.int .i64 z] 3)).get (h0.next+2)=some (.cells [I z] 3):=by rw[show h0.next+2=(f.new (.cells [.ptr B.b 0] 43)).next by rw[Ab.D8,p]];exact Ad _ _
 rw[show(f.new (.cells [.ptr B.b 0] 43)).next=h0.next+2 by rw[Ab.D8,p],p];generalize (f.new (.cells [.ptr B.b 0] 43)).new (.cells [.int .i64 z] 3)=h2 at D n2 U V⊢;have n:=D.hb t;have J:Ext h0 h2:=G.trans D;generalize u:(((((((((Tr.nil.put 0 (some (EV.ptr B.c 0))).put 1 (some (EV.int .i64 z))).put 4 (some EV.Ao)).put 5 (some (EV.ptr h0.next 0))).put 7 (some (EV.ptr B.c 0))).put 8 (some (EV.ptr B.c 0))).put 9 (some (EV.ptr B.c 2))).put 10 (some (EV.ptr B.b 0))).put 11 (some (EV.int .i64 z))).put 12 (some (EV.func 144 [] [EV.ptr (h0.next+1) 0,EV.ptr (h0.next+2) 0]))=tm;have t5:tmp tm 5=.ptr h0.next 0:=by rw[<-u];simp only[Gz,reduceIte,Nat.reduceEqDiff]
 clear u;have nl:h2.next+1=h0.next+4:=by omega
 have hlen:=C.map.len;have:=C.sm.b0;have:=C.sm.b1;have cl:Bo4 disp K e (h2.next+1) (h0.next+2) B.b B.ml B.ll X.S.g X.es z (h2.next+2) (fun j h=>Bfg F h0 h (h2.next+1) tm (h0.next+2) z (blN z X.es j)/\j<=X.es.length) (fun h=>False):=by
  refine⟨fun j h h' w c=>⟨w.1.chg c (fun i a=>by have:=a.1;have:=a.2;omega) (by omega) (by omega),w.2⟩,fun h h' w c=>w.elim,fun j hj h a w nx=>?_,fun j hj h a w=>⟨by rw[Bvr hj a];exact w.1,hj⟩,fun j h w=>w.1.q.hb,fun h w=>w.elim,fun j h w=>(C.rd w.1.q).C.map,fun j h w=>w.1.zq⟩;have bl:=Bo7 z X.es j;obtain⟨v,h',e1,rfl,c,w'⟩:=A88 (K:=K) A t5 (l0:=h2.next+1) (zq:=h0.next+2) (by omega) (by omega) (by omega) (e:=e) (by omega) (j:=j) (by omega) (by omega) w.1;refine⟨true,h',e1,c.mono fun i a y=>a ⟨by have:=y.1;omega,by have:=y.2;omega⟩,?_⟩;rw[aG rfl,Buq hj a];exact⟨w',hj⟩
 have M:Ext h2 (Ca TT 73 19 0 tm h2):=Jj;have I0:Bfg F h0 (Ca TT 73 19 0 tm h2) (h2.next+1) tm (h0.next+2) z (blN z X.es 0):=⟨Qt.ext (J.trans M) hb,J1,Le,M.at n V,.Ao,0,M.at n (D.at t g5),Cs.nil _ _ _ _,fun y=>absurd y (bS 0)⟩;refine Ok.Au0 (K:=K) A (by omega) cl (by omega) C.sm U n ⟨I0,cQ _⟩ (fun o w=>⟨w.1.lp,?_⟩) fun o w=>w.elim
 obtain⟨w,_⟩:=w;obtain⟨s,qr,r1,r2,O⟩:=w.row;have P:=w.q.hb;have l3:=P _ _ w.lp;have E:Qt F h0 (o.put (h2.next+1) (Au TT 73 19 0 tm .exhausted none h2.next)):=w.q.Axe ((Av.refl (S:=fun i=>i=h2.next+1) o).Ar (.inl rfl) l3 _) fun i a=>by omega
 have g5:(o.put (h2.next+1) (Au TT 73 19 0 tm .exhausted none h2.next)).get h0.next=some (.cells [s] 28):=by rw[Ag _];exact r1
 have gd:(o.put (h2.next+1) (Au TT 73 19 0 tm .exhausted none h2.next)).get h2.next=some (.deferred true):=by rw[Ag _];exact w.dd
 have rr:=r2.frame (h':=o.put (h2.next+1) (Au TT 73 19 0 tm .exhausted none h2.next)) fun y=>Ag _ (by have:=O y;omega)
 generalize o.put (h2.next+1) (Au TT 73 19 0 tm .exhausted none h2.next)=h4 at E g5 gd rr⊢;simp only[Zo,dr];rw[Al g5 rfl (v:=s) rfl];refine Ok.unwind (cB.2 ⟨by simp,cq⟩) (fun d hd=>by rw[aO]at hd;subst hd;exact gd) E.hb fun h6 W _=>?_
 exact .ret ⟨E.Axe W fun i a=>by rw[aO]at a;omega,qr,rr.frame fun y=>W.get _ (E.hb _ _ (rr.block y)) fun y'=>by rw[aO]at y';have:=O y;omega,fun y=>by have:=O y;omega⟩
end
end
section
def Co.live(X:Co)(z:Int):Int:=Ug X.S.g X.es z
def Co.Aw5(X:Co)(z:Int):Bool:=X.closed z&&(decide (2*X.live z<=X.S.g.S)&&Ag8 X.S z X.es)
def Co.K5(X:Co):Nat->Int
 | 0=>-1
 | i+1=>if X.Aw5 i=true/\(X.K5 i = -1\/X.live i<X.live (X.K5 i))then i else X.K5 i
theorem Co.A98(X:Co):∀n,-1<=X.K5 n/\X.K5 n<n
 | 0=>by unfold Co.K5;omega
 | n+1=>by
  have:=X.A98 n;unfold Co.K5;split<;>omega
theorem Bit(a:X.es.length<=256)(z:Int):0<=X.live z/\X.live z<=256:=by
 unfold Co.live Ug;split
 ·have:=Akx z X.es;omega
 ·omega
theorem Cz.A9v(C:Cz h B X F):X.es.length<=256:=by
 have:=C.map.len;have:=C.sm.b1;have:=C.sm.b0;omega
theorem Bkw(A:Bj disp)(hK:10000<K){n:Nat}(hn:X.S.g.D*X.S.g.Z=n)(hd:8<=d):∀(f i:Nat) (h:Ab),n-i<f->i<=n->Cz h B X F ->
 Ok (Ka (Ae TT disp K d false) (Ae TT disp K d true) K f (.ptr B.c 0) (I (X.K5 i)) (I n) (I i) h) fun v h'=>v=I (X.K5 n)/\Qt F h h':=by
 intro f;induction f with
 | zero=>intro i h Y;omega
 | succ f ih=>
  intro i h Y hi C;have bd:=C.sm.Ag0;have U:=C.A9v;rw[Ka];simp only[I,Ac];by_cases ab:i<n
  ·have:decide ((i:Int)<(n:Int))=true:=by simp;omega
   simp only[this,Aa,Ahr];rw[C.ldB];have ml:=Abo (K:=K) C.map i;simp only[I]at ml;rw[ml,As];refine(Aa0 A hK C hd (z:=i) ⟨by omega,by omega⟩).An ?_;rintro _ h2 ⟨rfl,O⟩;have G:=(C.rd O).C;have nx:∀h' b,Qt F h h'->b=X.K5 (i+1)->Ok (Q4 (Ae TT disp K d false) (Ae TT disp K d true) K (Ka (Ae TT disp K d false) (Ae TT disp K d true) K f) (.ptr B.c 0) (.int .i64 b) (.int .i64 (n:Int)) (.int .i64 (i:Int)) h') fun v h'=>v=I (X.K5 n)/\Qt F h h':=by
    intro h' b q hb;subst hb;simp only[Q4,Ac];rw[Cj,show((i:Nat):Int)+1=((i+1:Nat):Int) by omega];refine(ih (i+1) h' (by omega) (by omega) (C.rd q).C).mono ?_;rintro v t ⟨a,u⟩;exact⟨a,q.trans u⟩
   have no:X.Aw5 i=false->X.K5 i=X.K5 (i+1):=fun E=>by
    rw[show X.K5 (i+1)=if X.Aw5 i=true/\(X.K5 i = -1\/X.live i<X.live (X.K5 i))then(i:Int)else X.K5 i from rfl,aF (by rw[E];simp)]
   have lb:=Bit U i;have vb:=X.A98 i;have ad:=Bit U (X.K5 i);have ae:Cg (.tuple []) false=false/\Cg (.tuple []) true=false:=⟨rfl,rfl⟩;unfold Co.Aw5 at no;show Ok (Arw (.bool (X.closed i)) _) _;cases E:X.closed i with
   | false=>
    simp only[Aa,Ac,Qy,M0];exact nx _ _ O (no (by rw[E,bA]))
   | true=>
   simp only[Aa,Ac];rw[G.ldM];refine(Ss (K:=K) G.M G.hb).An ?_;rintro _ t ⟨rfl,x3⟩;have u:=O.trans (Qt.ext x3 G.hb);have C3:=(C.rd u).C;unfold gV;rw[Aen (v:=I X.S.g.S) rfl];simp only[I,Ac];have hL:Ug X.S.g X.es i=X.live i:=rfl;rw[hL,Cj];by_cases h2:X.S.g.S<2*X.live i
   ·simp only[h2,aB,Aa,Ac,Qy,M0]
    exact nx _ _ u (no (by rw[E,aP (by omega)];rfl))
   simp only[h2,aA,Aa,Ac,Qy];have V:=Bm8 (K:=K) A hK C3 (d:=d) hd i;simp only[I]at V;refine V.An ?_;rintro _ h4 ⟨rfl,p⟩;have p:=u.trans p;have W:=(C.rd p).C;cases hw:Ag8 X.S i X.es with
   | false=>
    simp only[Aa,Ac,M0];exact nx _ _ p (no (by rw[hw,cS,cS]))
   | true=>
   simp only[Aa,Ac,M0,Ail];have o:X.Aw5 i=true:=by unfold Co.Aw5;rw[E,hw,aM (by omega)];rfl
   by_cases J:X.K5 i = -1
   ·simp only[J,aB,Aa,Ac,Zv]
    exact nx _ _ p (by rw[show X.K5 (i+1)=if X.Aw5 i=true/\(X.K5 i = -1\/X.live i<X.live (X.K5 i))then(i:Int)else X.K5 i from rfl,aG ⟨o,.inl J⟩])
   simp only[J,aA,Aa,Ac];rw[W.ldB];have ml:=Abo (K:=K) W.map (X.K5 i);simp only[I]at ml;rw[ml,As];simp only[Ac,Zv];have P:Ug X.S.g X.es (X.K5 i)=X.live (X.K5 i):=rfl;rw[P];by_cases t:X.live i<X.live (X.K5 i)
   ·simp only[t,aB,Aa,Ac]
    exact nx _ _ p (by rw[show X.K5 (i+1)=if X.Aw5 i=true/\(X.K5 i = -1\/X.live i<X.live (X.K5 i))then(i:Int)else X.K5 i from rfl,aG ⟨o,.inr t⟩])
   ·simp only[t,aA,Aa,Ac]
    exact nx _ _ p (by rw[show X.K5 (i+1)=if X.Aw5 i=true/\(X.K5 i = -1\/X.live i<X.live (X.K5 i))then(i:Int)else X.K5 i from rfl,aF fun y=>y.2.elim J t])
  ·have:decide ((i:Int)<(n:Int))=false:=by simp;omega
   have:i=n:=by omega
   subst this;simp only[Int.lt_irrefl,aA,Aa,Ahn];exact .ret ⟨rfl,Qt.refl C.hb⟩
theorem A7x(A:Bj disp)(hK:10000<K)(C:Cz h B X F)(hd:9<=d):Ok (Ae TT disp K d false 33 [.ptr B.c 0] h) fun v h'=>v=I (X.K5 (X.S.g.D*X.S.g.Z).toNat)/\Qt F h h':=by
 obtain⟨e,rfl⟩:∃k,d=k+1:=⟨d-1,by omega⟩;rw[Asv A (by omega)];simp only[Apj,Aa];rw[C.ldM];refine Aoq A C fun h2 f=>?_
 have bd:=C.sm.Ag0;obtain⟨n,o⟩:=aY (show 0<=X.S.g.D*X.S.g.Z by omega);rw[o,aZ];refine(Bkw A hK o (d:=e) (by omega) K 0 h2 (by omega) (by omega) (C.toE f).C).mono ?_;rintro v q ⟨a,p⟩;exact⟨a,(Qt.ext f C.hb).trans p⟩
end
theorem Cz.lift(C:Cz h B X F):Cz h.lift B X F:=
 ⟨C.M.same (Asm.lift _),by rw[Ci];exact C.core,by rw[Ci];exact C.ar,C.map.frame (Ci _ _) (Ci _ _) (Ci _ _),C.wf,C.out,D4 C.hb⟩
end Go.Ev
