import Derived.Test.YtadnemjjlacolaaGreatTab
import Derived.Test.YtadnemjjlacolaaGreatEvSix
set_option linter.all false
namespace Go.Ev
variable {v:EV}{h h' h0:Aa}{P Q:EV->Aa->Prop}{i j n q sz:Nat}{kk:Aa->R}{ps:List (Nat × EV)}{e:TypeId}{kh:EV->Aa->R}{ke:EV->Aa->DX->R}
section
def Ok(x:R)(Q:EV->Aa->Prop):Prop:=∃v h,x=some (v,h)/\Q v h
theorem Ok.ret(q:Q v h):Ok (some (v,h)) Q:=⟨v,h,rfl,q⟩
theorem Ok.mono {x:R}(a:Ok x P)(b:∀v h,P v h->Q v h):Ok x Q:=by
 obtain⟨v,h,e,p⟩:=a;exact⟨v,h,e,b v h p⟩
theorem Ok.Ap {x:R}{k:EV->Aa->R}(a:Ok x P)(b:∀v h,P v h->Ok (k v h) Q):Ok (Ap x k) Q:=by
 obtain⟨v,h,e,p⟩:=a;rw[e];exact b v h p
theorem Ok.eq {x y:R}(e:x=y)(a:Ok y Q):Ok x Q:=by rw[e];exact a
def HB(h:Aa):Prop:=∀q o,h.get q=some o->q<h.next
theorem HB.new(a:HB h)(o:Dt):HB (h.new o):=fun q x e=>by
 rw[Aa.K1]at e;split at e
 ·rename_i d;rw[Aa.Dl];omega
 ·exact Nat.lt_succ_of_lt (a q x e)
theorem HB.put(a:HB h)(d:i<h.next)(o:Dt):HB (h.put i o):=fun q x e=>by
 rw[Aa.get_put]at e;split at e
 ·rename_i f;subst f;exact d
 ·exact a q x e
theorem HB.del(a:HB h)(i:Nat):HB (h.del i):=fun q x e=>by
 rw[Aa.Ze]at e;split at e
 ·cases e
 ·exact a q x e
structure Ar(S:Nat->Prop)(h h':Aa):Prop where
 get:∀i,i<h.next->¬S i->h'.get i=h.get i
 next:h.next<=h'.next
 mw:∀w,w<=h.mw->w<=h.next->(∀i,S i->w<=i)->w<=h'.mw
 hb:HB h->HB h'
abbrev Ext:Aa->Aa->Prop:=Ar fun _=>False
variable {S T:Nat->Prop}{h1 h2 h3:Aa}
theorem Ar.refl(h:Aa):Ar S h h:=⟨fun _ _ _=>rfl,aE _,fun _ a _ _=>a,id⟩
theorem Ar.trans(a:Ar S h1 h2)(b:Ar S h2 h3):Ar S h1 h3:=
 ⟨fun i d hs=>by rw[b.get i (aK d a.next) hs,a.get i d hs],bN a.next b.next,
  fun w w1 w2 w3=>b.mw w (a.mw w w1 w2 w3) (bN w2 a.next) w3,fun x=>b.hb (a.hb x)⟩
theorem Ar.mono(a:Ar S h h')(st:∀i,S i->T i):Ar T h h':=⟨fun i d hs=>a.get i d fun x=>hs (st i x),a.next,fun w w1 w2 w3=>a.mw w w1 w2 fun i d=>w3 i (st i d),a.hb⟩
theorem Ar.then(a:Ar S h1 h2)(b:Ar T h2 h3)(st:∀i,T i->i<h1.next->S i):Ar S h1 h3:=by
 refine⟨fun i d hs=>by rw[b.get i (aK d a.next) fun x=>hs (st i x d),a.get i d hs],bN a.next b.next,fun w w1 w2 w3=>?_,fun x=>b.hb (a.hb x)⟩;refine b.mw w (a.mw w w1 w2 w3) (bN w2 a.next) fun i d=>?_
 by_cases f:i<h1.next
 ·exact w3 i (st i d f)
 ·omega
theorem Ext.to(a:Ext h h'):Ar S h h':=a.mono fun _ x=>x.elim
theorem Ar.new(h:Aa)(o:Dt):Ar S h (h.new o):=
 ⟨fun i d _=>Aw o d,by rw[Aa.Dl];omega,fun w w1 _ _=>by rw[Aa.Bos];exact w1,fun x=>x.new o⟩
theorem Ar.put(h:Aa)(d:S i\/h.next<=i)(f:HB h->i<h.next)(o:Dt):Ar S h (h.put i o):=by
 refine⟨fun j hj hs=>Af o fun e=>?_,by rw[Aa.Pr];exact aE _,fun w w1 w2 w3=>?_,fun x=>x.put (f x) o⟩
 ·subst e;rcases d with d|d
  ·exact hs d
  ·omega
 ·rw[Aa.Am7]
  rcases d with d|d
  ·have:=w3 i d;omega
  ·omega
theorem Ar.del(h:Aa)(d:S i\/h.next<=i):Ar S h (h.del i):=by
 refine⟨fun j hj hs=>A8g fun e=>?_,by rw[Aa.Ayp];exact aE _,fun w w1 w2 w3=>?_,fun x=>x.del i⟩
 ·subst e;rcases d with d|d
  ·exact hs d
  ·omega
 ·rw[Aa.Axy]
  rcases d with d|d
  ·have:=w3 i d;omega
  ·omega
theorem Ar.Aq(x:Ar S h0 h)(d:S i\/h0.next<=i)(f:i<h.next)(o:Dt):Ar S h0 (h.put i o):=
 x.then (T:=fun j=>j=i) (Ar.put (S:=fun j=>j=i) h (.inl rfl) (fun _=>f) o) fun j hj g=>by
  have e:j=i:=hj;subst e;rcases d with d|d
  ·exact d
  ·omega
theorem Ar.Df(x:Ar S h0 h)(o:Dt):Ar S h0 (h.new o):=x.trans (Ar.new _ _)
theorem Ar.at(c:Ar S h h')(hb:HB h){o:Dt}(g:h.get i=some o)(d:¬S i):h'.get i=some o:=by rw[c.get i (hb i o g) d];exact g
theorem Ext.at(c:Ext h h')(hb:HB h){o:Dt}(g:h.get i=some o):h'.get i=some o:=Ar.at c hb g id
theorem Bb{o o':Dt}(a:h.get i=some o)(b:h.get j=some o')(n:o≠o'):i≠j:=fun e=>n (by rw[e,b]at a;cases a;rfl)
noncomputable def Aa.lift(h:Aa):Aa:=⟨h.t,h.next,h.next⟩
structure Al4(h h':Aa):Prop where
 get:∀i,h'.get i=h.get i
 next:h'.next=h.next
theorem Aff(h:Aa)(i:Nat):h.get i=h.t.get i:=by cases h;rfl
theorem By(h:Aa)(i:Nat):h.lift.get i=h.get i:=by rw[Aff,Aff];rfl
theorem Ait(h:Aa):h.lift.next=h.next:=rfl
theorem Dg(a:HB h):HB h.lift:=fun q o e=>a q o (by rw[<-By];exact e)
theorem Al4.lift(h:Aa):Al4 h h.lift:=⟨By h,rfl⟩
theorem Al4.hb(a:Al4 h h')(b:HB h):HB h':=fun q o e=>by rw[a.next];exact b q o (by rw[<-a.get];exact e)
section
variable {b:Nat}{s:DX}{call:Aa->R}{k:EV->Aa->DX->R}
theorem Ok.L6(hb:Aew b s=true)(d:loose b s.nw = [])(f:Ok (call h.lift) P)(he:∀v h1,P v h1->Ext h.lift h1)
 (g:∀v h1 h2,P v h1->Al4 h1 h2->Ext h h2->Ok (k v h2 (s.big i)) Q):Ok (L6 i b s h call k) Q:=by
 obtain⟨v,h1,e,p⟩:=f;have x:=he v h1 p;have m:Ke b s h=h.lift:=by unfold Ke;rw[d];rfl
 have hm:h.next<=h1.mw:=x.mw h.next (aE _) (aE _) fun _ y=>y.elim
 have u:Ev.L6 i b s h call k=k v ⟨h1.t,h1.next,h.mw⟩ (s.big i):=by
  show Ba (Aew b s) (Ev.Ap (call (Ke b s h)) fun v h'=>Pk i b s h h' fun s h=>k v h s) none=_;rw[hb,Aj,m,e];show Pk i b s h h1 (fun s h=>k v h s)=_;unfold Pk;rw[aQ hm,Aj,d];rfl
 rw[u];refine g v h1 _ p ⟨fun i=>by rw[Aff,Aff],rfl⟩ ⟨fun i A B=>?_,x.next,fun w w1 _ _=>w1,fun y=>?_⟩
 ·rw[Aff];show h1.t.get i=_;rw[<-Aff,x.get i A B,By]
 ·exact Al4.hb (h:=h1) ⟨fun i=>by rw[Aff,Aff],rfl⟩ (x.hb (Dg y))
theorem Ok.bE(d:Ok (call h.lift) P)(he:∀v h1,P v h1->Ext h.lift h1)(f:∀v h1 h2,P v h1->Al4 h1 h2->Ext h h2->Ok (k v h2 (s.big i)) Q)(hb:Aew b s=true:=by kernel_rfl)(g:loose b s.nw = []:=by kernel_rfl):Ok (Ev.L6 i b s h call k) Q:=Ok.L6 hb g d he f
theorem Ok.Bgr(hb:Aew b s=true)(d:loose b s.nw = [])(m:∀w,Wz b w s.Cs=true)(u:Ok (call h.lift) P)(he:∀v h1,P v h1->Ar S h.lift h1)
 (f:∀v h1 h2 s',P v h1->Al4 h1 h2->Ar S h h2->(s'=s.big i\/∃w,s'=s.Ahr i w/\w=h1.mw)->Ok (k v h2 s') Q):Ok (Ev.L6 i b s h call k) Q:=by
 obtain⟨v,h1,e,p⟩:=u;have x:=he v h1 p;have A:Ke b s h=h.lift:=by unfold Ke;rw[d];rfl
 have B:Ev.L6 i b s h call k=Pk i b s h h1 fun s h=>k v h s:=by
  show Ba (Aew b s) (Ev.Ap (call (Ke b s h)) fun v h'=>Pk i b s h h' fun s h=>k v h s) none=_;rw[hb,Aj,A,e];rfl
 rw[B];unfold Pk;rw[d];have sm:∀w,Al4 h1 ⟨h1.t,h1.next,w⟩:=fun w=>⟨fun i=>by rw[Aff,Aff],rfl⟩
 have g:∀w i,i<h.next->¬S i->(⟨h1.t,h1.next,w⟩:Aa).get i=h.get i:=fun w i C D=>by
  rw[(sm w).get,x.get i C D,By]
 cases hle:Nat.ble h.next h1.mw with
 | true=>
  rw[Aj];exact f v h1 _ _ p (sm _) ⟨g _,x.next,fun w w1 _ _=>w1,fun y=>(sm _).hb (x.hb (Dg y))⟩ (.inl rfl)
 | false=>
  rw[Bl,m,Aj];refine f v h1 _ _ p (sm _) ⟨g _,x.next,fun w w1 w2 w3=>?_,fun y=>(sm _).hb (x.hb (Dg y))⟩ (.inr ⟨_,rfl,rfl⟩);have:=x.mw w w2 w2 w3;show w<=Ba (Nat.ble h.mw h1.mw) h.mw h1.mw;rw[Bn];split<;>assumption
theorem Ok.bC(d:Ok (call h.lift) P)(he:∀v h1,P v h1->Ar S h.lift h1)
 (f:∀v h1 h2 s',P v h1->Al4 h1 h2->Ar S h h2->(s'=s.big i\/∃w,s'=s.Ahr i w/\w=h1.mw)->Ok (k v h2 s') Q) (hb:Aew b s=true:=by kernel_rfl) (g:loose b s.nw = []:=by kernel_rfl) (m:∀w,Wz b w s.Cs=true:=by exact fun _=>by kernel_rfl):Ok (Ev.L6 i b s h call k) Q:=Ok.Bgr hb g m d he f
theorem Cm {b base o:Nat}{s:DX}{k:DX->R}(d:q<base)(f:Ba (E8 b q s.st) (Wl b q s.lou) false=true):Ov i b base (.ptr q o) s k=k (s.ld i q):=by
 show Ba (A31 b base q s) _ none=_;unfold A31;rw[aQ (show Nat.succ q<=base from d),Aj,f,Aj]
theorem Jb {b base o:Nat}{s:DX}{k:DX->R}(d:q<base)(f:Ba (E8 b q s.st) (Wl b q s.lou) false=true:=by kernel_rfl):Ov i b base (.ptr q o) s k=k (s.ld i q):=Cm d f
theorem J6 {b o:Nat}{s:DX}{k:DX->R}(d:Bbm b q s=true:=by kernel_rfl):Bfn i b (.ptr q o) s k=k (s.sto i q):=by
 show Ba (Bbm b q s) _ none=_;rw[d,Aj]
end
section
variable {o c s len:Nat}{l l':List EV}{t:TypeId}{k:EV->R}
noncomputable def rowOf:Dt->Option (List EV)
 | .cells l _=>some l
 | .vec l _ _=>some l
 | _=>none
theorem Al {x:Dt}(f:h.get i=some x)(d:rowOf x=some l)(g:l[o]? = some v):Ez (.ptr i o) h k=k v:=by
 show oB _ (Aod (h.get i) o 1)=_;rw[f];have m:Mo l o 1=some [v]:=by
  obtain⟨h1,h2⟩:=aY.1 g;rw[E7 (by omega),cq h1,h2];rfl
 cases x<;>first|(cases d;done)|(cases d;show oB _ (Mo l o 1)=_;rw[m];rfl)
theorem Nw {off d rm:Nat}{op:Bool}{kd:IntKind}(hj:j<d):Aac sz (.slice q off d rm op) (.int kd (j:Int)) k=k (.ptr q (off+j*sz)):=Bl6 hj k kd
theorem Cr {x:Dt}(f:h.get i=some x)(d:rowOf x=some l)(g:Mo l o n=some l'):Ox n (.ptr i o) h k=k (.agg l'):=by
 show oB _ (Aod (h.get i) o n)=_;rw[f];cases x<;>first|(cases d;done)|(cases d;show oB _ (Mo l o n)=_;rw[g];rfl)
theorem Anp(d:h.get i=some (.cells l t))(hp:v.plain=true)(f:Fz v.cells=n)(g:L7 l o v.cells=some l'):stE n (.ptr i o) v h kk=kk (h.put i (.cells l' t)):=by
 show Ba v.plain (Ba (Nat.beq (Fz v.cells) n) (Afn h i (fun l=>L7 l o v.cells) kk) none) none=_;rw[hp,Aj,f,cK,Aj,Azn d,g];rfl
theorem Blf{z:Nat}(d:h.get i=some (.vec l t z))(hp:v.plain=true)(f:Fz v.cells=n)(g:L7 l o v.cells=some l'):stE n (.ptr i o) v h kk=kk (h.put i (.vec l' t z)):=by
 show Ba v.plain (Ba (Nat.beq (Fz v.cells) n) (Afn h i (fun l=>L7 l o v.cells) kk) none) none=_;rw[hp,Aj,f,cK,Aj];unfold Afn;rw[d];simp only;rw[g];rfl
theorem Ok.st(l':List EV)(d:h.get i=some (.cells l t))(hp:v.plain=true)(f:Fz v.cells=n)(g:L7 l o v.cells=some l')(m:Ok (kk (h.put i (.cells l' t))) Q):Ok (stE n (.ptr i o) v h kk) Q:=by
 rw[Anp d hp f g];exact m
theorem nW(h:Aa)(o:Dt):∃h',h.new o=h'/\Ext h h'/\h'.get h.next=some o/\h'.next=h.next+1:=⟨_,rfl,Ar.new _ _,Ad _ _,rfl⟩
theorem nP(h:Aa)(z o:Dt):∃h',(h.new z).put h.next o=h'/\Ext h h'/\h'.get h.next=some o/\h'.next=h.next+1:=⟨_,rfl,(Ar.new h _:Ext _ _).Aq (.inr (aE _)) (aL _) _,Ae _ _ _,rfl⟩
theorem Ok.mk {z xs:List EV}(f:z.length=n)(d:xs.length=n)(g:∀h',Ext h h'->h'.get h.next=some (.cells xs t)->h'.next=h.next+1->Ok (kk h') Q):Ok (stE n (.ptr h.next 0) (.agg xs) (h.new (.cells z t)) kk) Q:=by
 obtain⟨h',e,a,b,c⟩:=nP h (.cells z t) (.cells xs t);refine Ok.st xs (Ad _ _) rfl (by show Fz xs=n;rw[Bc,d]) (Bk (by show z.length=xs.length;rw[f,d])) ?_;rw[e];exact g h' a b c
theorem Ok.st1(f:h.get i=some (.cells l t))(hp:v.plain=true)(d:v.cells = [v])(g:o<l.length)(m:Ok (kk (h.put i (.cells (l.set o v) t))) Q):Ok (stE 1 (.ptr i o) v h kk) Q:=by
 rw[Anp f hp (by rw[d];rfl) (by rw[d];exact A1t v l o g)];exact m
theorem Bk2(hp:v.plain=true):Sh t v h kh=kh (.ptr h.next 0) (h.new (.cells v.cells t)):=by unfold Sh;rw[hp,Aj]
theorem Azc {a b:EV}{x:Bool}:Aqg (.bool x) a b k=Ba x (k a) (k b):=rfl
theorem As:Ap (some (v,h')) kh=kh v h':=rfl
theorem Ac7 {off d:Nat}{kd:IntKind}(hj:j<d):Auo d sz (.ptr q off) (.int kd (j:Int)) k=k (.ptr q (off+j*sz)):=by
 show Ba (Nat.ble (Nat.succ j) d) _ none=_;rw[aQ hj,Aj];rfl
theorem A0t {kd d:IntKind}{x:Int}:R6 kd (.int d x) k=k (.int kd (De kd x)):=rfl
theorem Bhr {kd:IntKind}{x:Int}:A8q (.int kd x) k=k (.int kd (De kd (0-x))):=rfl
theorem Art(d:l[o]? = some v):Ahq o false 0 (.agg l) k=k v:=by
 show oB k (Ayt l o)=_;rw[At6,d];rfl
theorem Ax {place:Nat->Option (Nat × Nat)}{z:List EV}(d:Zr place ps z=some l):Bq place z ps k=k (.agg l):=by
 unfold Bq;rw[d];rfl
theorem Ak {l:List EV}(d:l.length=n):Mo l 0 n=some l:=by
 subst d;rw[E7 (by omega),dF,cO]
theorem Cq {n:Int}(h1 : -9223372036854775808<=n:=by omega)(h2:n<=9223372036854775807:=by omega):De .i64 n=n:=A08 h1 (by omega)
end
theorem Bhm {b:Int}{T:H7}{t:Nat}{a:Int}{k:EV->R}(hb:0<b)(h1:0<=a)(h2:a<9223372036854775808):Afi (bin T .quo t) (.int .i64 a) (.int .i64 b) k=k (.int .i64 (a/b)):=by
 obtain⟨n,rfl⟩:=a8 (Int.le_of_lt hb);show oB k (Ba (eqB (.ofNat n) 0) none (some (.int .i64 (De .i64 (a.tdiv (.ofNat n))))))=_;have:eqB (.ofNat n) 0=false:=by
  show Nat.beq n 0=false;cases n with
  | zero=>exact absurd hb (by decide)
  | succ n=>rfl
 rw[this,Bl];have e:a.tdiv (.ofNat n)=a/n:=Int.tdiv_eq_ediv_of_nonneg h1;have h3:a/(n:Int)<=a:=Int.ediv_le_self _ h1;have h4:0<=a/(n:Int):=Int.ediv_nonneg h1 (by omega);rw[e,A08 (by omega) (by omega)];rfl
section
variable {v' w w' a a' b b' x':EV}{x y r r':R}{k:EV->R}{kd:DX->R}{kb:Nat->DX->R}
@[congr] theorem Ok.c {Q:EV->Aa->Prop}(e:r=r'):Ok r Q=Ok r' Q:=by rw[e]
@[congr] theorem Ba.c {α:Type}{p q:Bool}{x y:α}(e:p=q):Ba p x y=Ba q x y:=by rw[e]
@[congr] theorem oB.c {α β:Type}{k:α->Option β}{p q:Option α}(e:p=q):oB k p=oB k q:=by rw[e]
@[congr] theorem Ap.c(e:r=r'):Ap r kh=Ap r' kh:=by rw[e]
@[congr] theorem Ez.c(e:v=v'):Ez v h k=Ez v' h k:=by rw[e]
@[congr] theorem Ox.c {n:Nat}(e:v=v'):Ox n v h k=Ox n v' h k:=by rw[e]
@[congr] theorem stE.c {n:Nat}(e:a=a')(e':v=v'):stE n a v h kk=stE n a' v' h kk:=by rw[e,e']
@[congr] theorem Aun.c {o o':Dt}(e:o=o'):Aun o h kh=Aun o' h kh:=by rw[e]
@[congr] theorem Sh.c {t:Nat}(e:v=v'):Sh t v h kh=Sh t v' h kh:=by rw[e]
@[congr] theorem Kk.c {g:IG}{f:EV->EV->Option EV}(e:v=v')(e':w=w'):Kk g f v w k=Kk g f v' w' k:=by rw[e,e']
@[congr] theorem Afi.c {f:EV->EV->Option EV}(e:v=v')(e':w=w'):Afi f v w k=Afi f v' w' k:=by rw[e,e']
@[congr] theorem Aqg.c(e:v=v'):Aqg v a b k=Aqg v' a b k:=by rw[e]
@[congr] theorem An0.c(e:v=v'):An0 v k=An0 v' k:=by rw[e]
@[congr] theorem A8q.c(e:v=v'):A8q v k=A8q v' k:=by rw[e]
@[congr] theorem Arw.c(e:v=v'):Arw v k=Arw v' k:=by rw[e]
@[congr] theorem Aht.c {n:Nat}(e:v=v'):Aht n v k=Aht n v' k:=by rw[e]
@[congr] theorem Auo.c {n m:Nat}(e:v=v')(e':w=w'):Auo n m v w k=Auo n m v' w' k:=by rw[e,e']
@[congr] theorem Aac.c {n:Nat}(e:v=v')(e':w=w'):Aac n v w k=Aac n v' w' k:=by rw[e,e']
@[congr] theorem Awy.c {n m q:Nat}{g:Bool}(e:v=v')(e':w=w'):Awy n m g q v w k=Awy n m g q v' w' k:=by rw[e,e']
@[congr] theorem Ahq.c {n m:Nat}{g:Bool}(e:v=v'):Ahq n g m v k=Ahq n g m v' k:=by rw[e]
@[congr] theorem R6.c {c:IntKind}(e:v=v'):R6 c v k=R6 c v' k:=by rw[e]
@[congr] theorem Ap4.c {n:Nat}(e:v=v'):Ap4 n v k=Ap4 n v' k:=by rw[e]
@[congr] theorem H5.c(e:v=v'):H5 v k=H5 v' k:=by rw[e]
@[congr] theorem Ay0.c {n:Nat}(e:v=v'):Ay0 n v k=Ay0 n v' k:=by rw[e]
@[congr] theorem Bq.c {place:Nat->Option (Nat × Nat)}{z:List EV}{ps ps':List (Nat × EV)}(e:ps=ps'):Bq place z ps k=Bq place z ps' k:=by rw[e]
@[congr] theorem Ah3.c {n:Nat}{m d p f u g:Option EV}(e:v=v')(e1:m=d)(e2:p=f)(e3:u=g):Ah3 n v m p u k=Ah3 n v' d f g k:=by rw[e,e1,e2,e3]
@[congr] theorem Ps.c {n m:Nat}{p d u f A g:Option EV}(e:v=v')(e1:p=d)(e2:u=f)(e3:A=g):Ps n m v p u A k=Ps n m v' d f g k:=by rw[e,e1,e2,e3]
@[congr] theorem ifE.c(e:v=v'):ifE v x y=ifE v' x y:=by rw[e]
@[congr] theorem Aaa.c(e:h=h'):Aaa h kb=Aaa h' kb:=by rw[e]
@[congr] theorem Ov.c {i b base:Nat}{s:DX}(e:v=v'):Ov i b base v s kd=Ov i b base v' s kd:=by rw[e]
@[congr] theorem Bfn.c {i b:Nat}{s:DX}(e:v=v'):Bfn i b v s kd=Bfn i b v' s kd:=by rw[e]
@[congr] theorem A9w.c {i:Nat}{s s':DX}(e:s=s'):A9w i h s kd=A9w i h s' kd:=by rw[e]
@[congr] theorem L6.c {i b:Nat}{s s':DX}{call:Aa->R}(e:s=s'):L6 i b s h call ke=L6 i b s' h call ke:=by rw[e]
@[congr] theorem Wd.c {c:Ai}{T:H7}{g n i:Nat}{tm:Az}{ds:List Nat}{d:Aa->List Nat->R}{f:Nat->Aa->List Nat->R}{m:Aa->List Nat->R}(e:v=v'):Wd c T g n i v tm h ds d f m=Wd c T g n i v' tm h ds d f m:=by rw[e]
@[congr] theorem Aov.c {c:Ai}{T:H7}{g n i l0:Nat}{tm:Az}{ds:List Nat}{d:Aa->List Nat->R}{f:Nat->Aa->List Nat->R}{m:Aa->List Nat->R}(e:v=v'):Aov c T g n i l0 v tm h ds d f m=Aov c T g n i l0 v' tm h ds d f m:=by rw[e]
@[congr] theorem E1.c {l:Nat}(e:h=h'):E1 l h kk=E1 l h' kk:=by rw[e]
end
theorem Cs{x:Dt}{l:List EV}(f:h.get i=some x)(d:rowOf x=some l):∀(o:Nat) (k:EV->R),Ez (.ptr i o) h k=oB k l[o]?:=by
 intro o k;cases g:l[o]? with
 | some v=>exact Al f d g
 | none=>
  show oB _ (Aod (h.get i) o 1)=_;rw[f];have m:l.length<=o:=List.getElem?_eq_none_iff.1 g;have p:Mo l o 1=none:=by
   rw[Agm,Rp,List.drop_eq_nil_of_le m];rfl
  cases x<;>first|(cases d;done)|(cases d;show oB _ (Mo l o 1)=_;rw[p];rfl)
theorem Cw{x:Dt}{l:List EV}(f:h.get i=some x)(d:rowOf x=some l):∀(n o:Nat) (k:EV->R),Ox n (.ptr i o) h k=oB (fun l=>k (.agg l)) (Mo l o n):=by
 intro n o k;show oB _ (Aod (h.get i) o n)=_;rw[f];cases x<;>first|(cases d;done)|(cases d;rfl)
theorem Ab:Zs/\Zi /\
 (∀(i o:Nat) (k:EV->R),Arw (.ptr i o) k=k (.ptr i o))/\(∀(c i o:Nat) (k:EV->R),Aht c (.ptr i o) k=k (.ptr i (o+c))) /\
 (∀(o:Dt) (h:Aa) (k:EV->Aa->R),Aun o h k=k (.ptr h.next 0) (h.new o)) /\
 (∀(t:Nat) (c:IntKind) (n:Int) (h:Aa) (k:EV->Aa->R),Sh t (.int c n) h k=k (.ptr h.next 0) (h.new (.cells [.int c n] t))) /\
 (∀(t:Nat) (l:List EV) (h:Aa) (k:EV->Aa->R),Sh t (.agg l) h k=k (.ptr h.next 0) (h.new (.cells l t))) /\
 (∀(t i o:Nat) (h:Aa) (k:EV->Aa->R),Sh t (.ptr i o) h k=k (.ptr h.next 0) (h.new (.cells [.ptr i o] t))) /\
 (∀(t i o n m:Nat) (p:Bool) (h:Aa) (k:EV->Aa->R),Sh t (.slice i o n m p) h k=k (.ptr h.next 0) (h.new (.cells [.slice i o n m p] t))) /\
 (∀(t:Nat) (h:Aa) (k:EV->Aa->R),Sh t .Ao h k=k (.ptr h.next 0) (h.new (.cells [.Ao] t))) /\
 (∀(x:Bool) (a b:EV) (k:EV->R),Aqg (.bool x) a b k=Ba x (k a) (k b)) /\
 (∀(x:Bool) (k:EV->R),An0 (.bool x) k=Ba x (k (.bool false)) (k (.bool true))) /\
 (∀(x:Bool) (a b:R),ifE (.bool x) a b=Ba x a b) /\
 (∀(k:EV->R),H5 .Ao k=k (.int .i64 0))/\(∀(q off d rm:Nat) (op:Bool) (k:EV->R),H5 (.slice q off d rm op) k=k (.int .i64 (d:Int))) /\
 (∀(o:Nat) (l:List EV) (k:EV->R),Ap4 o (.tuple l) k=oB k l[o]?) /\
 (∀(h:Aa) (k:Nat->DX->R),Aaa h k=k h.next ⟨0,[],[],[],[]⟩)/\(∀(i:Nat) (h:Aa) (s:DX) (k:DX->R),A9w i h s k=k (s.new i h.next)) /\
 (∀(v:EV) (h:Aa) (k:EV->Aa->R),Ap (some (v,h)) k=k v h) /\
 (∀(o:Nat) (l:List EV) (k:EV->R),Ahq o false 0 (.agg l) k=oB k l[o]?) /\
 (∀(c f:IntKind) (n:Int) (k:EV->R),R6 c (.int f n) k=k (.int c (De c n))) /\
 (∀(x y:R),Ba true x y=x)/\(∀(x y:R),Ba false x y=y)/\(Ba true true false=true)/\(Ba false true false=false)/\(Ba true false true=false)/\(Ba false false true=true)/\Apa true=false/\Apa false=true /\
 (∀(k:EV->R) (v:EV),oB k (some v)=k v)/\(∀(h:Aa) (v:EV),It TT [.v v] h=some (v,h))/\(∀(h:Aa) (v w:EV),It TT [.v v,.v w] h=some (.tuple [v,w],h))/\(∀(h:Aa) (v w x:EV),It TT [.v v,.v w,.v x] h=some (.tuple [v,w,x],h)) /\
 (∀(h:Aa) (k:Aa->R),Fp [] h k=k h)/\(∀(p:EV) (r:List EV),(p::r)[0]? = some p)/\(∀(p:EV) (r:List EV) (n:Nat),(p::r)[n+1]? = r[n]?)/\(∀n:Nat,0+n=n)/\(∀(k:List EV->R) (l:List EV),oB k (some l)=k l):=
 ⟨dz,dzi,fun _ _ _=>rfl,fun _ _ _ _=>rfl,fun _ _ _=>rfl,fun _ _ _ _ _=>rfl,fun _ _ _ _=>rfl,fun _ _ _ _ _=>rfl,fun _ _ _ _ _ _ _ _=>rfl,fun _ _ _=>rfl,fun _ _ _ _=>rfl,fun _ _=>rfl,fun _ _ _=>rfl,
  fun _=>rfl,fun _ _ _ _ _ _=>rfl,fun o l k=>by show oB k (Ayt l o)=_;rw[At6],fun _ _=>rfl,fun _ _ _ _=>rfl,fun _ _ _=>rfl,fun o l k=>by show oB k (Ayt l o)=_;rw[At6],fun _ _ _ _=>rfl,
  fun _ _=>rfl,fun _ _=>rfl,rfl,rfl,rfl,rfl,rfl,rfl,fun _ _=>rfl,fun _ _=>rfl,fun _ _ _=>rfl,fun _ _ _ _=>rfl,fun _ _=>rfl,fun _ _=>rfl,fun _ _ _=>rfl,bK,fun _ _=>rfl⟩
theorem Au:
 (∀(s:DX) (i q:Nat),s.ld i q=⟨s.bg,s.nw,(Nat.shiftLeft 1 i,q)::s.Cs,s.lou,s.st⟩)/\(∀(s:DX) (i q:Nat),s.new i q=⟨s.bg,(Nat.shiftLeft 1 i,q)::s.nw,s.Cs,s.lou,s.st⟩) /\
 (∀(s:DX) (i:Nat),s.big i=⟨Nat.lor s.bg (Nat.shiftLeft 1 i),s.nw,s.Cs,s.lou,s.st⟩)/\(∀(b q:Nat),E8 b q []=true)/\(∀(b q:Nat),Wl b q []=true):=
 ⟨fun _ _ _=>rfl,fun _ _ _=>rfl,fun _ _=>rfl,fun _ _=>rfl,fun _ _=>rfl⟩
theorem Ac:Zs/\Zi /\
 (∀(g:IG) (f:EV->EV->Option EV) (x y:Int) (k:EV->R),Kk g f (.int .i64 x) (.int .i64 y) k=k (g .i64 x y)) /\
 (∀(c:IntKind) (a b:Int),Ky c a b=.bool (decide (a<b)))/\(∀(c:IntKind) (a b:Int),Bak c a b=.bool (decide (a<=b))) /\
 (∀(c:IntKind) (a b:Int),A62 c a b=.bool (decide (b<a)))/\(∀(c:IntKind) (a b:Int),A9e c a b=.bool (decide (b<=a))) /\
 (∀(c:IntKind) (a b:Int),Al0 c a b=.bool (decide (a=b)))/\(∀(c:IntKind) (a b:Int),Ajg c a b=.bool (decide (¬a=b))) /\
 (∀(c:IntKind) (a b:Int),A0i c a b=.int c (De c (a+b)))/\(∀(c:IntKind) (a b:Int),A9x c a b=.int c (De c (a-b)))/\(∀(c:IntKind) (a b:Int),Bdy c a b=.int c (De c (a*b))) /\
 (∀(b w:Bool),Fa (.bool b) w=Ba b w (Apa w))/\(∀w,Fa (.tuple []) w=false):=
 ⟨dz,dzi,fun _ _ _ _ _=>rfl,fun _ a b=>by rw[Bk6,Ar9],fun _ a b=>by rw[Bli,Ar9,Asu];congr 1;exact eI.2 (by omega),
  fun _ a b=>by rw[Bmf,Ar9],fun _ a b=>by rw[Blp,Ar9,Asu];congr 1;exact eI.2 (by omega),
  fun _ a b=>by rw[Bk5,Axc],fun _ a b=>by rw[Ba5,Axc,Asu],
  fun _ a b=>by rw[Blh,Bdl],fun _ a b=>by unfold A9x;rw[A9u],fun _ a b=>rfl,fun _ _=>rfl,fun _=>rfl⟩
end
def Cj(h:Aa)(s:EV)(q:Nat)(e:TypeId)(sz len:Nat)(l:List EV):Prop:=
 (len=0/\l = []/\(s=.Ao\/∃b,s=.slice b 0 0 0 false))\/(0<len/\s=.slice q 0 len len true/\h.get q=some (.vec l e sz)/\l.length=len*sz)
theorem Cj.nil(h:Aa)(q:Nat)(e:TypeId)(sz:Nat):Cj h .Ao q e sz 0 []:=.inl ⟨rfl,rfl,.inl rfl⟩
theorem Cj.empty(h:Aa)(b q:Nat)(e:TypeId)(sz:Nat):Cj h (.slice b 0 0 0 false) q e sz 0 []:=.inl ⟨rfl,rfl,.inr ⟨_,rfl⟩⟩
theorem Cj.frame {s:EV}{len:Nat}{l:List EV}(r:Cj h s q e sz len l)(g:0<len->h'.get q=h.get q):Cj h' s q e sz len l:=by
 rcases r with r|⟨a,b,c,d⟩
 ·exact .inl r
 ·exact .inr ⟨a,b,by rw[g a];exact c,d⟩
theorem Cj.len {s:EV}{len:Nat}{l:List EV}(r:Cj h s q e sz len l):lenOf s=some len:=by
 rcases r with⟨rfl,_,rfl|⟨_,rfl⟩⟩|⟨_,rfl,_⟩<;>rfl
theorem Cj.H5 {s:EV}{len:Nat}{l:List EV}(r:Cj h s q e sz len l)(k:EV->R):Ev.H5 s k=k (.int .i64 (len:Int)):=by
 unfold Ev.H5;rw[r.len];rfl
theorem Cj.plain {s:EV}{len:Nat}{l:List EV}(r:Cj h s q e sz len l):s.plain=true/\s.cells = [s]:=by
 rcases r with⟨rfl,_,rfl|⟨_,rfl⟩⟩|⟨_,rfl,_⟩<;>exact⟨rfl,rfl⟩
theorem Cj.size {s:EV}{len:Nat}{l:List EV}(r:Cj h s q e sz len l):l.length=len*sz:=by
 rcases r with⟨rfl,rfl,_⟩|⟨_,_,_,d⟩
 ·rw[fS];rfl
 ·exact d
theorem Cj.ix {s:EV}{len:Nat}{l:List EV}(r:Cj h s q e sz len l)(hj:j<len)(kd:IntKind)(k:EV->R):Aac sz s (.int kd (j:Int)) k=k (.ptr q (j*sz)):=by
 rcases r with⟨rfl,_,_⟩|⟨_,rfl,_,_⟩
 ·omega
 ·rw[Nw hj,bK]
theorem Cj.block {s:EV}{len:Nat}{l:List EV}(r:Cj h s q e sz len l)(d:0<len):h.get q=some (.vec l e sz):=by
 rcases r with⟨rfl,_,_⟩|⟨_,_,c,_⟩
 ·omega
 ·exact c
theorem Cj.slice {s:EV}{len:Nat}{l:List EV}(r:Cj h s q e sz len l)(d:0<len):s=.slice q 0 len len true:=by
 rcases r with⟨rfl,_,_⟩|⟨_,c,_⟩
 ·omega
 ·exact c
theorem Yx {s x:EV}{len:Nat}{l new:List EV}(r:Cj h s q e sz len l)(f:lenOf x=some n)(A:0<n)(d:n<=65536)(p:len<=1048576)(g:Oq h sz n x=some new)(hs:new.length=n*sz):
 ∃h',D9 e sz s x h=some (.slice h.next 0 (len+n) (len+n) true,h')/\Cj h' (.slice h.next 0 (len+n) (len+n) true) h.next e sz (len+n) (l++new)/\h'.next=h.next+1/\Ar (fun i=>0<len/\i=q) h h':=by
 have e0:Nat.beq n 0=false:=by cases n with|zero=>omega|succ n=>rfl
 rcases r with⟨rfl,rfl,rfl|⟨b,rfl⟩⟩|⟨hp,rfl,u,hlen⟩
 ·refine⟨h.new (.vec new e sz),?_,.inr ⟨by omega,rfl,?_,by rw[dQ,bK];exact hs⟩,rfl,Ar.new _ _⟩
  ·unfold D9
   simp only[f,Gx,e0,Bl,g,aQ d,Aj,bK]
  ·rw[Ad];rfl
 ·have e2:Nat.ble (Nat.add 0 n) 0=false:=by cases n with|zero=>omega|succ n=>show Nat.ble (0+(n+1)) 0=false;rw[bK];rfl
  have e3:Oq h sz 0 (.slice b 0 0 0 false)=some []:=rfl;refine⟨h.new (.vec new e sz),?_,.inr ⟨by omega,rfl,?_,by rw[dQ,bK];exact hs⟩,rfl,Ar.new _ _⟩
  ·unfold D9
   simp only[f,Gx,e0,Bl,g,e3,e2,aQ d,aQ p,Aj];rfl
  ·rw[Ad];rfl
 ·have m:Oq h sz len (.slice q 0 len len true)=some l:=by
   show Ba (Nat.beq len 0) (some []) (Xy h q 0 (Nat.mul len sz))=_;have:Nat.beq len 0=false:=by cases len with|zero=>omega|succ n=>rfl
   rw[this,Bl];unfold Xy Ash;rw[u];exact Ak hlen
  refine⟨(h.del q).new (.vec (l++new) e sz),?_,.inr ⟨by omega,rfl,?_,by rw[aG,hlen,hs,fQ]⟩,rfl,?_⟩
  ·unfold D9
   simp only[f,Gx,e0,Bl,g,m,u,aQ d,aQ p,Aj];rw[show Nat.beq 0 0=true from rfl,Aj,cK,Aj,Bc,hlen,show Nat.beq (len*sz) (Nat.mul len sz)=true from cK _,Aj,cK,Aj,cK,Aj,As2];rfl
  ·rw[show h.next=(h.del q).next from rfl,Ad]
  ·exact(Ar.del h (.inl ⟨hp,rfl⟩)).trans (Ar.new _ _)
theorem Aa8 {z:List EV}(hp:v.plain=true)(f:z.length=sz)(d:v.cells.length=sz)(hs:sz<=65536):Bx z e sz 1 [(0,v)] h=some (.slice h.next 0 1 1 false,h.new (.cells v.cells e)):=by
 unfold Bx;rw[aQ (show Nat.mul 1 sz<=65536 by show 1*sz<=65536;omega),Aj];have g:Zr (Nb sz) [(0,v)] (rep z 1)=some v.cells:=by
  show oB (Baz fun off size=>Ba v.plain (Ba (Nat.beq (Fz v.cells) size) (oB _ (L7 (rep z 1) off v.cells)) none) none) (Nb sz 0)=_;show Ba v.plain (Ba (Nat.beq (Fz v.cells) sz) (oB _ (L7 (rep z 1) (Nat.mul 0 sz) v.cells)) none) none=_;rw[hp,Aj,Bc,d,cK,Aj];have:rep z 1=z:=by show z++[]=z;rw[dE]
  rw[this,show Nat.mul 0 sz=0 from fS sz,Bk (by rw[f,d])];rfl
 rw[g];rfl
theorem V6 {b:Nat}{l:List EV}(hb:h.get b=some (.cells l e))(d:l.length=sz):Oq h sz 1 (.slice b 0 1 1 false)=some l:=by
 show Ba (Nat.beq 1 0) (some []) (Xy h b 0 (Nat.mul 1 sz))=_;rw[show Nat.beq 1 0=false from rfl,Bl];unfold Xy Ash;rw[hb];exact Ak (by rw[d];show sz=1*sz;omega)
theorem Nu {s:EV}{len:Nat}{l z:List EV}{k:EV->Aa->R}(r:Cj h s q e sz len l)(hb:HB h)(hp:v.plain=true)(g:z.length=sz)(d:v.cells.length=sz)(hs:sz<=65536)(f:len<=1048575)
 (m:∀h',Cj h' (.slice (h.next+1) 0 (len+1) (len+1) true) (h.next+1) e sz (len+1) (l++v.cells)->h'.next=h.next+2->Ar (fun i=>0<len/\i=q) h h'->Ok (k (.slice (h.next+1) 0 (len+1) (len+1) true) h') Q) :
 Ok (Ap (Bx z e sz 1 [(0,v)] h) fun w h=>Ap (D9 e sz s w h) k) Q:=by
 rw[Aa8 hp g d hs,As];have p:Cj (h.new (.cells v.cells e)) s q e sz len l:=r.frame fun f=>Aw _ (hb q _ (r.block f))
 obtain⟨h',e1,u,A,c2⟩:=Yx (n:=1) (x:=.slice h.next 0 1 1 false) p rfl (by omega) (by omega) (by omega) (V6 (Ad _ _) d) (by rw[d];omega);rw[e1,As];exact m h' u A ((Ar.new h _).trans c2)
end Go.Ev
