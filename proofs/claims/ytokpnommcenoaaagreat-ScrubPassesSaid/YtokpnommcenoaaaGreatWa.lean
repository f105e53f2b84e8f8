import Derived.Test.YtokpnommcenoaaaGreatTab
import Derived.Test.YtokpnommcenoaaaGreatEvSix
set_option linter.all false
namespace Go.Ev
variable {v:EV}{h h' h0:Ab}{P Q:EV->Ab->Prop}{i j n q sz:Nat}{kk:Ab->R}{ps:List (Nat × EV)}{e:TypeId}{kh:EV->Ab->R}{ke:EV->Ab->DX->R}
section
def Ok(x:R)(Q:EV->Ab->Prop):Prop:=∃v h,x=some (v,h)/\Q v h
theorem Ok.ret(q:Q v h):Ok (some (v,h)) Q:=⟨v,h,rfl,q⟩
theorem Ok.mono {x:R}(a:Ok x P)(b:∀v h,P v h->Q v h):Ok x Q:=by
 obtain⟨v,h,e,p⟩:=a;exact⟨v,h,e,b v h p⟩
theorem Ok.Am {x:R}{k:EV->Ab->R}(a:Ok x P)(b:∀v h,P v h->Ok (k v h) Q):Ok (Am x k) Q:=by
 obtain⟨v,h,e,p⟩:=a;rw[e];exact b v h p
theorem Ok.eq {x y:R}(e:x=y)(a:Ok y Q):Ok x Q:=by rw[e];exact a
def HB(h:Ab):Prop:=∀q o,h.get q=some o->q<h.next
theorem HB.new(a:HB h)(o:Ca):HB (h.new o):=fun q x e=>by
 rw[Ab.K8]at e;split at e
 ·rename_i d;rw[Ab.Dg];omega
 ·exact Nat.lt_succ_of_lt (a q x e)
theorem HB.put(a:HB h)(d:i<h.next)(o:Ca):HB (h.put i o):=fun q x e=>by
 rw[Ab.get_put]at e;split at e
 ·rename_i f;subst f;exact d
 ·exact a q x e
theorem HB.del(a:HB h)(i:Nat):HB (h.del i):=fun q x e=>by
 rw[Ab.Aa8]at e;split at e
 ·cases e
 ·exact a q x e
structure As(S:Nat->Prop)(h h':Ab):Prop where
 get:∀i,i<h.next->¬S i->h'.get i=h.get i
 next:h.next<=h'.next
 mw:∀w,w<=h.mw->w<=h.next->(∀i,S i->w<=i)->w<=h'.mw
 hb:HB h->HB h'
abbrev Ext:Ab->Ab->Prop:=As fun _=>False
variable {S T:Nat->Prop}{h1 h2 h3:Ab}
theorem As.refl(h:Ab):As S h h:=⟨fun _ _ _=>rfl,aD _,fun _ a _ _=>a,id⟩
theorem As.trans(a:As S h1 h2)(b:As S h2 h3):As S h1 h3:=
 ⟨fun i d hs=>by rw[b.get i (aN d a.next) hs,a.get i d hs],bQ a.next b.next,
  fun w w1 w2 w3=>b.mw w (a.mw w w1 w2 w3) (bQ w2 a.next) w3,fun x=>b.hb (a.hb x)⟩
theorem As.mono(a:As S h h')(st:∀i,S i->T i):As T h h':=⟨fun i d hs=>a.get i d fun x=>hs (st i x),a.next,fun w w1 w2 w3=>a.mw w w1 w2 fun i d=>w3 i (st i d),a.hb⟩
theorem As.then(a:As S h1 h2)(b:As T h2 h3)(st:∀i,T i->i<h1.next->S i):As S h1 h3:=by
 refine⟨fun i d hs=>by rw[b.get i (aN d a.next) fun x=>hs (st i x d),a.get i d hs],bQ a.next b.next,fun w w1 w2 w3=>?_,fun x=>b.hb (a.hb x)⟩;refine b.mw w (a.mw w w1 w2 w3) (bQ w2 a.next) fun i d=>?_
 by_cases f:i<h1.next
 ·exact w3 i (st i d f)
 ·omega
theorem Ext.to(a:Ext h h'):As S h h':=a.mono fun _ x=>x.elim
theorem As.new(h:Ab)(o:Ca):As S h (h.new o):=
 ⟨fun i d _=>Az o d,by rw[Ab.Dg];omega,fun w w1 _ _=>by rw[Ab.Btj];exact w1,fun x=>x.new o⟩
theorem As.put(h:Ab)(d:S i\/h.next<=i)(f:HB h->i<h.next)(o:Ca):As S h (h.put i o):=by
 refine⟨fun j hj hs=>Ae o fun e=>?_,by rw[Ab.Qz];exact aD _,fun w w1 w2 w3=>?_,fun x=>x.put (f x) o⟩
 ·subst e;rcases d with d|d
  ·exact hs d
  ·omega
 ·rw[Ab.Apo]
  rcases d with d|d
  ·have:=w3 i d;omega
  ·omega
theorem As.del(h:Ab)(d:S i\/h.next<=i):As S h (h.del i):=by
 refine⟨fun j hj hs=>Bdq fun e=>?_,by rw[Ab.Aqi];exact aD _,fun w w1 w2 w3=>?_,fun x=>x.del i⟩
 ·subst e;rcases d with d|d
  ·exact hs d
  ·omega
 ·rw[Ab.A07]
  rcases d with d|d
  ·have:=w3 i d;omega
  ·omega
theorem As.Ao(x:As S h0 h)(d:S i\/h0.next<=i)(f:i<h.next)(o:Ca):As S h0 (h.put i o):=
 x.then (T:=fun j=>j=i) (As.put (S:=fun j=>j=i) h (.inl rfl) (fun _=>f) o) fun j hj g=>by
  have e:j=i:=hj;subst e;rcases d with d|d
  ·exact d
  ·omega
theorem As.Da(x:As S h0 h)(o:Ca):As S h0 (h.new o):=x.trans (As.new _ _)
theorem As.at(c:As S h h')(hb:HB h){o:Ca}(g:h.get i=some o)(d:¬S i):h'.get i=some o:=by rw[c.get i (hb i o g) d];exact g
theorem Ext.at(c:Ext h h')(hb:HB h){o:Ca}(g:h.get i=some o):h'.get i=some o:=As.at c hb g id
theorem Ay{o o':Ca}(a:h.get i=some o)(b:h.get j=some o')(n:o≠o'):i≠j:=fun e=>n (by rw[e,b]at a;cases a;rfl)
noncomputable def Ab.lift(h:Ab):Ab:=⟨h.t,h.next,h.next⟩
structure Ahf(h h':Ab):Prop where
 get:∀i,h'.get i=h.get i
 next:h'.next=h.next
theorem Acd(h:Ab)(i:Nat):h.get i=h.t.get i:=by cases h;rfl
theorem Br(h:Ab)(i:Nat):h.lift.get i=h.get i:=by rw[Acd,Acd];rfl
theorem Alh(h:Ab):h.lift.next=h.next:=rfl
theorem Db(a:HB h):HB h.lift:=fun q o e=>a q o (by rw[<-Br];exact e)
theorem Ahf.lift(h:Ab):Ahf h h.lift:=⟨Br h,rfl⟩
theorem Ahf.hb(a:Ahf h h')(b:HB h):HB h':=fun q o e=>by rw[a.next];exact b q o (by rw[<-a.get];exact e)
section
variable {b:Nat}{s:DX}{call:Ab->R}{k:EV->Ab->DX->R}
theorem Ok.J0(hb:Ace b s=true)(d:loose b s.nw = [])(f:Ok (call h.lift) P)(he:∀v h1,P v h1->Ext h.lift h1)
 (g:∀v h1 h2,P v h1->Ahf h1 h2->Ext h h2->Ok (k v h2 (s.big i)) Q):Ok (J0 i b s h call k) Q:=by
 obtain⟨v,h1,e,p⟩:=f;have x:=he v h1 p;have m:Hs b s h=h.lift:=by unfold Hs;rw[d];rfl
 have hm:h.next<=h1.mw:=x.mw h.next (aD _) (aD _) fun _ y=>y.elim
 have u:Ev.J0 i b s h call k=k v ⟨h1.t,h1.next,h.mw⟩ (s.big i):=by
  show Ax (Ace b s) (Ev.Am (call (Hs b s h)) fun v h'=>Mm i b s h h' fun s h=>k v h s) none=_;rw[hb,Ak,m,e];show Mm i b s h h1 (fun s h=>k v h s)=_;unfold Mm;rw[aO hm,Ak,d];rfl
 rw[u];refine g v h1 _ p ⟨fun i=>by rw[Acd,Acd],rfl⟩ ⟨fun i A B=>?_,x.next,fun w w1 _ _=>w1,fun y=>?_⟩
 ·rw[Acd];show h1.t.get i=_;rw[<-Acd,x.get i A B,Br]
 ·exact Ahf.hb (h:=h1) ⟨fun i=>by rw[Acd,Acd],rfl⟩ (x.hb (Db y))
theorem Ok.bE(d:Ok (call h.lift) P)(he:∀v h1,P v h1->Ext h.lift h1)(f:∀v h1 h2,P v h1->Ahf h1 h2->Ext h h2->Ok (k v h2 (s.big i)) Q)(hb:Ace b s=true:=by kernel_rfl)(g:loose b s.nw = []:=by kernel_rfl):Ok (Ev.J0 i b s h call k) Q:=Ok.J0 hb g d he f
theorem Ok.Blb(hb:Ace b s=true)(d:loose b s.nw = [])(m:∀w,Th b w s.C0=true)(u:Ok (call h.lift) P)(he:∀v h1,P v h1->As S h.lift h1)
 (f:∀v h1 h2 s',P v h1->Ahf h1 h2->As S h h2->(s'=s.big i\/∃w,s'=s.Afg i w/\w=h1.mw)->Ok (k v h2 s') Q):Ok (Ev.J0 i b s h call k) Q:=by
 obtain⟨v,h1,e,p⟩:=u;have x:=he v h1 p;have A:Hs b s h=h.lift:=by unfold Hs;rw[d];rfl
 have B:Ev.J0 i b s h call k=Mm i b s h h1 fun s h=>k v h s:=by
  show Ax (Ace b s) (Ev.Am (call (Hs b s h)) fun v h'=>Mm i b s h h' fun s h=>k v h s) none=_;rw[hb,Ak,A,e];rfl
 rw[B];unfold Mm;rw[d];have sm:∀w,Ahf h1 ⟨h1.t,h1.next,w⟩:=fun w=>⟨fun i=>by rw[Acd,Acd],rfl⟩
 have g:∀w i,i<h.next->¬S i->(⟨h1.t,h1.next,w⟩:Ab).get i=h.get i:=fun w i C D=>by
  rw[(sm w).get,x.get i C D,Br]
 cases hle:Nat.ble h.next h1.mw with
 | true=>
  rw[Ak];exact f v h1 _ _ p (sm _) ⟨g _,x.next,fun w w1 _ _=>w1,fun y=>(sm _).hb (x.hb (Db y))⟩ (.inl rfl)
 | false=>
  rw[Bc,m,Ak];refine f v h1 _ _ p (sm _) ⟨g _,x.next,fun w w1 w2 w3=>?_,fun y=>(sm _).hb (x.hb (Db y))⟩ (.inr ⟨_,rfl,rfl⟩);have:=x.mw w w2 w2 w3;show w<=Ax (Nat.ble h.mw h1.mw) h.mw h1.mw;rw[Bo];split<;>assumption
theorem Ok.bC(d:Ok (call h.lift) P)(he:∀v h1,P v h1->As S h.lift h1)
 (f:∀v h1 h2 s',P v h1->Ahf h1 h2->As S h h2->(s'=s.big i\/∃w,s'=s.Afg i w/\w=h1.mw)->Ok (k v h2 s') Q) (hb:Ace b s=true:=by kernel_rfl) (g:loose b s.nw = []:=by kernel_rfl) (m:∀w,Th b w s.C0=true:=by exact fun _=>by kernel_rfl):Ok (Ev.J0 i b s h call k) Q:=Ok.Blb hb g m d he f
theorem Cg {b base o:Nat}{s:DX}{k:DX->R}(d:q<base)(f:Ax (E8 b q s.st) (Ym b q s.lou) false=true):Ln i b base (.ptr q o) s k=k (s.ld i q):=by
 show Ax (A69 b base q s) _ none=_;unfold A69;rw[aO (show Nat.succ q<=base from d),Ak,f,Ak]
theorem G2 {b base o:Nat}{s:DX}{k:DX->R}(d:q<base)(f:Ax (E8 b q s.st) (Ym b q s.lou) false=true:=by kernel_rfl):Ln i b base (.ptr q o) s k=k (s.ld i q):=Cg d f
theorem Gt {b o:Nat}{s:DX}{k:DX->R}(d:A50 b q s=true:=by kernel_rfl):Bkc i b (.ptr q o) s k=k (s.sto i q):=by
 show Ax (A50 b q s) _ none=_;rw[d,Ak]
end
section
variable {o c s len:Nat}{l l':List EV}{t:TypeId}{k:EV->R}
noncomputable def rowOf:Ca->Option (List EV)
 | .cells l _=>some l
 | .vec l _ _=>some l
 | _=>none
theorem Ah {x:Ca}(f:h.get i=some x)(d:rowOf x=some l)(g:l[o]? = some v):Fw (.ptr i o) h k=k v:=by
 show oB _ (Awa (h.get i) o 1)=_;rw[f];have m:Mu l o 1=some [v]:=by
  obtain⟨h1,h2⟩:=bJ.1 g;rw[E7 (by omega),dI h1,h2];rfl
 cases x<;>first|(cases d;done)|(cases d;show oB _ (Mu l o 1)=_;rw[m];rfl)
theorem Od {off ln rm:Nat}{op:Bool}{kd:IntKind}(hj:j<ln):Zl sz (.slice q off ln rm op) (.int kd (j:Int)) k=k (.ptr q (off+j*sz)):=Bq9 hj k kd
theorem Cp {x:Ca}(f:h.get i=some x)(d:rowOf x=some l)(g:Mu l o n=some l'):Qp n (.ptr i o) h k=k (.agg l'):=by
 show oB _ (Awa (h.get i) o n)=_;rw[f];cases x<;>first|(cases d;done)|(cases d;show oB _ (Mu l o n)=_;rw[g];rfl)
theorem Ao8(d:h.get i=some (.cells l t))(f:v.plain=true)(g:Fl v.cells=n)(m:Mq l o v.cells=some l'):stE n (.ptr i o) v h kk=kk (h.put i (.cells l' t)):=by
 show Ax v.plain (Ax (Nat.beq (Fl v.cells) n) (Ajl h i (fun l=>Mq l o v.cells) kk) none) none=_;rw[f,Ak,g,cI,Ak,A3i d,m];rfl
theorem Bpj{z:Nat}(d:h.get i=some (.vec l t z))(f:v.plain=true)(g:Fl v.cells=n)(m:Mq l o v.cells=some l'):stE n (.ptr i o) v h kk=kk (h.put i (.vec l' t z)):=by
 show Ax v.plain (Ax (Nat.beq (Fl v.cells) n) (Ajl h i (fun l=>Mq l o v.cells) kk) none) none=_;rw[f,Ak,g,cI,Ak];unfold Ajl;rw[d];simp only;rw[m];rfl
theorem Ok.st(l':List EV)(d:h.get i=some (.cells l t))(f:v.plain=true)(g:Fl v.cells=n)(m:Mq l o v.cells=some l')(p:Ok (kk (h.put i (.cells l' t))) Q):Ok (stE n (.ptr i o) v h kk) Q:=by
 rw[Ao8 d f g m];exact p
theorem nW(h:Ab)(o:Ca):∃h',h.new o=h'/\Ext h h'/\h'.get h.next=some o/\h'.next=h.next+1:=⟨_,rfl,As.new _ _,Ad _ _,rfl⟩
theorem nP(h:Ab)(z o:Ca):∃h',(h.new z).put h.next o=h'/\Ext h h'/\h'.get h.next=some o/\h'.next=h.next+1:=⟨_,rfl,(As.new h _:Ext _ _).Ao (.inr (aD _)) (aR _) _,Af _ _ _,rfl⟩
theorem Ok.mk {z xs:List EV}(f:z.length=n)(d:xs.length=n)(g:∀h',Ext h h'->h'.get h.next=some (.cells xs t)->h'.next=h.next+1->Ok (kk h') Q):Ok (stE n (.ptr h.next 0) (.agg xs) (h.new (.cells z t)) kk) Q:=by
 obtain⟨h',e,a,b,c⟩:=nP h (.cells z t) (.cells xs t);refine Ok.st xs (Ad _ _) rfl (by show Fl xs=n;rw[Bf,d]) (Bl (by show z.length=xs.length;rw[f,d])) ?_;rw[e];exact g h' a b c
theorem Ok.st1(f:h.get i=some (.cells l t))(g:v.plain=true)(d:v.cells = [v])(m:o<l.length)(p:Ok (kk (h.put i (.cells (l.set o v) t))) Q):Ok (stE 1 (.ptr i o) v h kk) Q:=by
 rw[Ao8 f g (by rw[d];rfl) (by rw[d];exact A5m v l o m)];exact p
theorem Bpk(d:v.plain=true):Q2 t v h kh=kh (.ptr h.next 0) (h.new (.cells v.cells t)):=by unfold Q2;rw[d,Ak]
theorem A0t {a b:EV}{x:Bool}:Am7 (.bool x) a b k=Ax x (k a) (k b):=rfl
theorem Bm6 {kk:Nat->DX->R}:W6 h kk=kk h.next ⟨0,[],[],[],[]⟩:=rfl
theorem Aq:Am (some (v,h')) kh=kh v h':=rfl
theorem Oy {off ln:Nat}{kd:IntKind}(hj:j<ln):Ap9 ln sz (.ptr q off) (.int kd (j:Int)) k=k (.ptr q (off+j*sz)):=by
 show Ax (Nat.ble (Nat.succ j) ln) _ none=_;rw[aO hj,Ak];rfl
theorem A51 {kd d:IntKind}{x:Int}:Tq kd (.int d x) k=k (.int kd (Cx kd x)):=rfl
theorem Blg {kd:IntKind}{x:Int}:Bd3 (.int kd x) k=k (.int kd (Cx kd (0-x))):=rfl
theorem Ats(d:l[o]? = some v):V9 o false 0 (.agg l) k=k v:=by
 show oB k (A24 l o)=_;rw[Awe,d];rfl
theorem Aw {place:Nat->Option (Nat × Nat)}{z:List EV}(d:Abp place ps z=some l):Bm place z ps k=k (.agg l):=by
 unfold Bm;rw[d];rfl
theorem Aj {l:List EV}(d:l.length=n):Mu l 0 n=some l:=by
 subst d;rw[E7 (by omega),dE,cL]
theorem Ci {n:Int}(h1 : -9223372036854775808<=n:=by omega)(h2:n<=9223372036854775807:=by omega):Cx .i64 n=n:=A4q h1 (by omega)
end
theorem Bob {b:Int}{T:Hj}{t:Nat}{a:Int}{k:EV->R}(hb:0<b)(h1:0<=a)(h2:a<9223372036854775808):Ae8 (bin T .quo t) (.int .i64 a) (.int .i64 b) k=k (.int .i64 (a/b)):=by
 obtain⟨n,rfl⟩:=aZ (Int.le_of_lt hb);show oB k (Ax (eqB (.ofNat n) 0) none (some (.int .i64 (Cx .i64 (a.tdiv (.ofNat n))))))=_;have:eqB (.ofNat n) 0=false:=by
  show Nat.beq n 0=false;cases n with
  | zero=>exact absurd hb (by decide)
  | succ n=>rfl
 rw[this,Bc];have e:a.tdiv (.ofNat n)=a/n:=Int.tdiv_eq_ediv_of_nonneg h1;have h3:a/(n:Int)<=a:=Int.ediv_le_self _ h1;have h4:0<=a/(n:Int):=Int.ediv_nonneg h1 (by omega);rw[e,A4q (by omega) (by omega)];rfl
section
variable {v' w w' a a' b b' x':EV}{x y r r':R}{k:EV->R}{kd:DX->R}{kb:Nat->DX->R}
@[congr] theorem Ok.c {Q:EV->Ab->Prop}(e:r=r'):Ok r Q=Ok r' Q:=by rw[e]
@[congr] theorem Ax.c {α:Type}{p q:Bool}{x y:α}(e:p=q):Ax p x y=Ax q x y:=by rw[e]
@[congr] theorem oB.c {α β:Type}{k:α->Option β}{p q:Option α}(e:p=q):oB k p=oB k q:=by rw[e]
@[congr] theorem Am.c(e:r=r'):Am r kh=Am r' kh:=by rw[e]
@[congr] theorem Fw.c(e:v=v'):Fw v h k=Fw v' h k:=by rw[e]
@[congr] theorem Qp.c {n:Nat}(e:v=v'):Qp n v h k=Qp n v' h k:=by rw[e]
@[congr] theorem stE.c {n:Nat}(e:a=a')(e':v=v'):stE n a v h kk=stE n a' v' h kk:=by rw[e,e']
@[congr] theorem Ax7.c {o o':Ca}(e:o=o'):Ax7 o h kh=Ax7 o' h kh:=by rw[e]
@[congr] theorem Q2.c {t:Nat}(e:v=v'):Q2 t v h kh=Q2 t v' h kh:=by rw[e]
@[congr] theorem J1.c {g:IG}{f:EV->EV->Option EV}(e:v=v')(e':w=w'):J1 g f v w k=J1 g f v' w' k:=by rw[e,e']
@[congr] theorem Ae8.c {f:EV->EV->Option EV}(e:v=v')(e':w=w'):Ae8 f v w k=Ae8 f v' w' k:=by rw[e,e']
@[congr] theorem Am7.c(e:v=v'):Am7 v a b k=Am7 v' a b k:=by rw[e]
@[congr] theorem Alz.c(e:v=v'):Alz v k=Alz v' k:=by rw[e]
@[congr] theorem Bd3.c(e:v=v'):Bd3 v k=Bd3 v' k:=by rw[e]
@[congr] theorem Ar8.c(e:v=v'):Ar8 v k=Ar8 v' k:=by rw[e]
@[congr] theorem Ahh.c {n:Nat}(e:v=v'):Ahh n v k=Ahh n v' k:=by rw[e]
@[congr] theorem Ap9.c {n m:Nat}(e:v=v')(e':w=w'):Ap9 n m v w k=Ap9 n m v' w' k:=by rw[e,e']
@[congr] theorem Zl.c {n:Nat}(e:v=v')(e':w=w'):Zl n v w k=Zl n v' w' k:=by rw[e,e']
@[congr] theorem Azy.c {n m q:Nat}{g:Bool}(e:v=v')(e':w=w'):Azy n m g q v w k=Azy n m g q v' w' k:=by rw[e,e']
@[congr] theorem V9.c {n m:Nat}{g:Bool}(e:v=v'):V9 n g m v k=V9 n g m v' k:=by rw[e]
@[congr] theorem Tq.c {c:IntKind}(e:v=v'):Tq c v k=Tq c v' k:=by rw[e]
@[congr] theorem Asr.c {n:Nat}(e:v=v'):Asr n v k=Asr n v' k:=by rw[e]
@[congr] theorem Hf.c(e:v=v'):Hf v k=Hf v' k:=by rw[e]
@[congr] theorem A0p.c {n:Nat}(e:v=v'):A0p n v k=A0p n v' k:=by rw[e]
@[congr] theorem Bm.c {place:Nat->Option (Nat × Nat)}{z:List EV}{ps d:List (Nat × EV)}(e:ps=d):Bm place z ps k=Bm place z d k:=by rw[e]
@[congr] theorem Ae2.c {n:Nat}{m d p f u g:Option EV}(e:v=v')(e1:m=d)(e2:p=f)(e3:u=g):Ae2 n v m p u k=Ae2 n v' d f g k:=by rw[e,e1,e2,e3]
@[congr] theorem N1.c {n m:Nat}{p d u f A g:Option EV}(e:v=v')(e1:p=d)(e2:u=f)(e3:A=g):N1 n m v p u A k=N1 n m v' d f g k:=by rw[e,e1,e2,e3]
@[congr] theorem ifE.c(e:v=v'):ifE v x y=ifE v' x y:=by rw[e]
@[congr] theorem W6.c(e:h=h'):W6 h kb=W6 h' kb:=by rw[e]
@[congr] theorem Ln.c {i b base:Nat}{s:DX}(e:v=v'):Ln i b base v s kd=Ln i b base v' s kd:=by rw[e]
@[congr] theorem Bkc.c {i b:Nat}{s:DX}(e:v=v'):Bkc i b v s kd=Bkc i b v' s kd:=by rw[e]
@[congr] theorem Beb.c {i:Nat}{s s':DX}(e:s=s'):Beb i h s kd=Beb i h s' kd:=by rw[e]
@[congr] theorem J0.c {i b:Nat}{s s':DX}{call:Ab->R}(e:s=s'):J0 i b s h call ke=J0 i b s' h call ke:=by rw[e]
@[congr] theorem Us.c {c:Ai}{T:Hj}{g n i:Nat}{tm:Bb}{ds:List Nat}{d:Ab->List Nat->R}{f:Nat->Ab->List Nat->R}{m:Ab->List Nat->R}(e:v=v'):Us c T g n i v tm h ds d f m=Us c T g n i v' tm h ds d f m:=by rw[e]
@[congr] theorem Ar3.c {c:Ai}{T:Hj}{g n i l0:Nat}{tm:Bb}{ds:List Nat}{d:Ab->List Nat->R}{f:Nat->Ab->List Nat->R}{m:Ab->List Nat->R}(e:v=v'):Ar3 c T g n i l0 v tm h ds d f m=Ar3 c T g n i l0 v' tm h ds d f m:=by rw[e]
@[congr] theorem Er.c {l:Nat}(e:h=h'):Er l h kk=Er l h' kk:=by rw[e]
end
theorem C0{x:Ca}{l:List EV}(f:h.get i=some x)(d:rowOf x=some l):∀(o:Nat) (k:EV->R),Fw (.ptr i o) h k=oB k l[o]?:=by
 intro o k;cases g:l[o]? with
 | some v=>exact Ah f d g
 | none=>
  show oB _ (Awa (h.get i) o 1)=_;rw[f];have m:l.length<=o:=List.getElem?_eq_none_iff.1 g;have p:Mu l o 1=none:=by
   rw[Ai5,Tp,List.drop_eq_nil_of_le m];rfl
  cases x<;>first|(cases d;done)|(cases d;show oB _ (Mu l o 1)=_;rw[p];rfl)
theorem Cz{x:Ca}{l:List EV}(f:h.get i=some x)(d:rowOf x=some l):∀(n o:Nat) (k:EV->R),Qp n (.ptr i o) h k=oB (fun l=>k (.agg l)) (Mu l o n):=by
 intro n o k;show oB _ (Awa (h.get i) o n)=_;rw[f];cases x<;>first|(cases d;done)|(cases d;rfl)
theorem Aa:Zs/\Zi /\
 (∀(i o:Nat) (k:EV->R),Ar8 (.ptr i o) k=k (.ptr i o))/\(∀(c i o:Nat) (k:EV->R),Ahh c (.ptr i o) k=k (.ptr i (o+c))) /\
 (∀(o:Ca) (h:Ab) (k:EV->Ab->R),Ax7 o h k=k (.ptr h.next 0) (h.new o)) /\
 (∀(t:Nat) (c:IntKind) (n:Int) (h:Ab) (k:EV->Ab->R),Q2 t (.int c n) h k=k (.ptr h.next 0) (h.new (.cells [.int c n] t))) /\
 (∀(t:Nat) (l:List EV) (h:Ab) (k:EV->Ab->R),Q2 t (.agg l) h k=k (.ptr h.next 0) (h.new (.cells l t))) /\
 (∀(t i o:Nat) (h:Ab) (k:EV->Ab->R),Q2 t (.ptr i o) h k=k (.ptr h.next 0) (h.new (.cells [.ptr i o] t))) /\
 (∀(t i o n m:Nat) (p:Bool) (h:Ab) (k:EV->Ab->R),Q2 t (.slice i o n m p) h k=k (.ptr h.next 0) (h.new (.cells [.slice i o n m p] t))) /\
 (∀(t:Nat) (h:Ab) (k:EV->Ab->R),Q2 t .Al h k=k (.ptr h.next 0) (h.new (.cells [.Al] t))) /\
 (∀(x:Bool) (a b:EV) (k:EV->R),Am7 (.bool x) a b k=Ax x (k a) (k b)) /\
 (∀(x:Bool) (k:EV->R),Alz (.bool x) k=Ax x (k (.bool false)) (k (.bool true))) /\
 (∀(x:Bool) (a b:R),ifE (.bool x) a b=Ax x a b) /\
 (∀(k:EV->R),Hf .Al k=k (.int .i64 0))/\(∀(q off ln rm:Nat) (op:Bool) (k:EV->R),Hf (.slice q off ln rm op) k=k (.int .i64 (ln:Int))) /\
 (∀(o:Nat) (l:List EV) (k:EV->R),Asr o (.tuple l) k=oB k l[o]?) /\
 (∀(h:Ab) (k:Nat->DX->R),W6 h k=k h.next ⟨0,[],[],[],[]⟩)/\(∀(i:Nat) (h:Ab) (s:DX) (k:DX->R),Beb i h s k=k (s.new i h.next)) /\
 (∀(v:EV) (h:Ab) (k:EV->Ab->R),Am (some (v,h)) k=k v h) /\
 (∀(o:Nat) (l:List EV) (k:EV->R),V9 o false 0 (.agg l) k=oB k l[o]?) /\
 (∀(c d:IntKind) (n:Int) (k:EV->R),Tq c (.int d n) k=k (.int c (Cx c n))) /\
 (∀(x y:R),Ax true x y=x)/\(∀(x y:R),Ax false x y=y)/\(Ax true true false=true)/\(Ax false true false=false)/\(Ax true false true=false)/\(Ax false false true=true)/\Aqp true=false/\Aqp false=true /\
 (∀(k:EV->R) (v:EV),oB k (some v)=k v)/\(∀(h:Ab) (v:EV),Ij TT [.v v] h=some (v,h))/\(∀(h:Ab) (v w:EV),Ij TT [.v v,.v w] h=some (.tuple [v,w],h))/\(∀(h:Ab) (v w x:EV),Ij TT [.v v,.v w,.v x] h=some (.tuple [v,w,x],h)) /\
 (∀(h:Ab) (k:Ab->R),Fi [] h k=k h)/\(∀(p:EV) (r:List EV),(p::r)[0]? = some p)/\(∀(p:EV) (r:List EV) (n:Nat),(p::r)[n+1]? = r[n]?)/\(∀n:Nat,0+n=n)/\(∀(k:List EV->R) (l:List EV),oB k (some l)=k l):=
 ⟨dz,dzi,fun _ _ _=>rfl,fun _ _ _ _=>rfl,fun _ _ _=>rfl,fun _ _ _ _ _=>rfl,fun _ _ _ _=>rfl,fun _ _ _ _ _=>rfl,fun _ _ _ _ _ _ _ _=>rfl,fun _ _ _=>rfl,fun _ _ _ _=>rfl,fun _ _=>rfl,fun _ _ _=>rfl,
  fun _=>rfl,fun _ _ _ _ _ _=>rfl,fun o l k=>by show oB k (A24 l o)=_;rw[Awe],fun _ _=>rfl,fun _ _ _ _=>rfl,fun _ _ _=>rfl,fun o l k=>by show oB k (A24 l o)=_;rw[Awe],fun _ _ _ _=>rfl,
  fun _ _=>rfl,fun _ _=>rfl,rfl,rfl,rfl,rfl,rfl,rfl,fun _ _=>rfl,fun _ _=>rfl,fun _ _ _=>rfl,fun _ _ _ _=>rfl,fun _ _=>rfl,fun _ _=>rfl,fun _ _ _=>rfl,bF,fun _ _=>rfl⟩
theorem Ar:
 (∀(s:DX) (i q:Nat),s.ld i q=⟨s.bg,s.nw,(Nat.shiftLeft 1 i,q)::s.C0,s.lou,s.st⟩)/\(∀(s:DX) (i q:Nat),s.new i q=⟨s.bg,(Nat.shiftLeft 1 i,q)::s.nw,s.C0,s.lou,s.st⟩) /\
 (∀(s:DX) (i:Nat),s.big i=⟨Nat.lor s.bg (Nat.shiftLeft 1 i),s.nw,s.C0,s.lou,s.st⟩)/\(∀(b q:Nat),E8 b q []=true)/\(∀(b q:Nat),Ym b q []=true):=
 ⟨fun _ _ _=>rfl,fun _ _ _=>rfl,fun _ _=>rfl,fun _ _=>rfl,fun _ _=>rfl⟩
theorem Ac:Zs/\Zi /\
 (∀(g:IG) (f:EV->EV->Option EV) (x y:Int) (k:EV->R),J1 g f (.int .i64 x) (.int .i64 y) k=k (g .i64 x y)) /\
 (∀(c:IntKind) (a b:Int),Ja c a b=.bool (decide (a<b)))/\(∀(c:IntKind) (a b:Int),Bc0 c a b=.bool (decide (a<=b))) /\
 (∀(c:IntKind) (a b:Int),A95 c a b=.bool (decide (b<a)))/\(∀(c:IntKind) (a b:Int),Bdu c a b=.bool (decide (b<=a))) /\
 (∀(c:IntKind) (a b:Int),Akq c a b=.bool (decide (a=b)))/\(∀(c:IntKind) (a b:Int),Alb c a b=.bool (decide (¬a=b))) /\
 (∀(c:IntKind) (a b:Int),A3p c a b=.int c (Cx c (a+b)))/\(∀(c:IntKind) (a b:Int),Bch c a b=.int c (Cx c (a-b)))/\(∀(c:IntKind) (a b:Int),Bji c a b=.int c (Cx c (a*b))) /\
 (∀(b w:Bool),D6 (.bool b) w=Ax b w (Aqp w))/\(∀w,D6 (.tuple []) w=false):=
 ⟨dz,dzi,fun _ _ _ _ _=>rfl,fun _ a b=>by rw[Bph,Avl],fun _ a b=>by rw[Bqa,Avl,Awp];congr 1;exact eS.2 (by omega),
  fun _ a b=>by rw[Brm,Avl],fun _ a b=>by rw[Bpr,Avl,Awp];congr 1;exact eS.2 (by omega),
  fun _ a b=>by rw[Bqs,A0g],fun _ a b=>by rw[Bf2,A0g,Awp],
  fun _ a b=>by rw[Bqt,Bjg],fun _ a b=>by unfold Bch;rw[Bdy],fun _ a b=>rfl,fun _ _=>rfl,fun _=>rfl⟩
end
def Cc(h:Ab)(s:EV)(q:Nat)(e:TypeId)(sz len:Nat)(l:List EV):Prop:=
 (len=0/\l = []/\(s=.Al\/∃b,s=.slice b 0 0 0 false))\/(0<len/\s=.slice q 0 len len true/\h.get q=some (.vec l e sz)/\l.length=len*sz)
theorem Cc.nil(h:Ab)(q:Nat)(e:TypeId)(sz:Nat):Cc h .Al q e sz 0 []:=.inl ⟨rfl,rfl,.inl rfl⟩
theorem Cc.empty(h:Ab)(b q:Nat)(e:TypeId)(sz:Nat):Cc h (.slice b 0 0 0 false) q e sz 0 []:=.inl ⟨rfl,rfl,.inr ⟨_,rfl⟩⟩
theorem Cc.frame {s:EV}{len:Nat}{l:List EV}(r:Cc h s q e sz len l)(g:0<len->h'.get q=h.get q):Cc h' s q e sz len l:=by
 rcases r with r|⟨a,b,c,d⟩
 ·exact .inl r
 ·exact .inr ⟨a,b,by rw[g a];exact c,d⟩
theorem Cc.len {s:EV}{len:Nat}{l:List EV}(r:Cc h s q e sz len l):lenOf s=some len:=by
 rcases r with⟨rfl,_,rfl|⟨_,rfl⟩⟩|⟨_,rfl,_⟩<;>rfl
theorem Cc.Hf {s:EV}{len:Nat}{l:List EV}(r:Cc h s q e sz len l)(k:EV->R):Ev.Hf s k=k (.int .i64 (len:Int)):=by
 unfold Ev.Hf;rw[r.len];rfl
theorem Cc.plain {s:EV}{len:Nat}{l:List EV}(r:Cc h s q e sz len l):s.plain=true/\s.cells = [s]:=by
 rcases r with⟨rfl,_,rfl|⟨_,rfl⟩⟩|⟨_,rfl,_⟩<;>exact⟨rfl,rfl⟩
theorem Cc.size {s:EV}{len:Nat}{l:List EV}(r:Cc h s q e sz len l):l.length=len*sz:=by
 rcases r with⟨rfl,rfl,_⟩|⟨_,_,_,d⟩
 ·rw[fR];rfl
 ·exact d
theorem Cc.ix {s:EV}{len:Nat}{l:List EV}(r:Cc h s q e sz len l)(hj:j<len)(kd:IntKind)(k:EV->R):Zl sz s (.int kd (j:Int)) k=k (.ptr q (j*sz)):=by
 rcases r with⟨rfl,_,_⟩|⟨_,rfl,_,_⟩
 ·omega
 ·rw[Od hj,bF]
theorem Cc.block {s:EV}{len:Nat}{l:List EV}(r:Cc h s q e sz len l)(d:0<len):h.get q=some (.vec l e sz):=by
 rcases r with⟨rfl,_,_⟩|⟨_,_,c,_⟩
 ·omega
 ·exact c
theorem Cc.slice {s:EV}{len:Nat}{l:List EV}(r:Cc h s q e sz len l)(d:0<len):s=.slice q 0 len len true:=by
 rcases r with⟨rfl,_,_⟩|⟨_,c,_⟩
 ·omega
 ·exact c
theorem Aav {s x:EV}{len:Nat}{l new:List EV}(r:Cc h s q e sz len l)(f:lenOf x=some n)(B:0<n)(d:n<=65536)(p:len<=1048576)(g:Pk h sz n x=some new)(hs:new.length=n*sz):
 ∃h',Eg e sz s x h=some (.slice h.next 0 (len+n) (len+n) true,h')/\Cc h' (.slice h.next 0 (len+n) (len+n) true) h.next e sz (len+n) (l++new)/\h'.next=h.next+1/\As (fun i=>0<len/\i=q) h h':=by
 have e0:Nat.beq n 0=false:=by cases n with|zero=>omega|succ n=>rfl
 rcases r with⟨rfl,rfl,rfl|⟨b,rfl⟩⟩|⟨A,rfl,u,hlen⟩
 ·refine⟨h.new (.vec new e sz),?_,.inr ⟨by omega,rfl,?_,by rw[dN,bF];exact hs⟩,rfl,As.new _ _⟩
  ·unfold Eg
   simp only[f,Gu,e0,Bc,g,aO d,Ak,bF]
  ·rw[Ad];rfl
 ·have e2:Nat.ble (Nat.add 0 n) 0=false:=by cases n with|zero=>omega|succ n=>show Nat.ble (0+(n+1)) 0=false;rw[bF];rfl
  have e3:Pk h sz 0 (.slice b 0 0 0 false)=some []:=rfl;refine⟨h.new (.vec new e sz),?_,.inr ⟨by omega,rfl,?_,by rw[dN,bF];exact hs⟩,rfl,As.new _ _⟩
  ·unfold Eg
   simp only[f,Gu,e0,Bc,g,e3,e2,aO d,aO p,Ak];rfl
  ·rw[Ad];rfl
 ·have m:Pk h sz len (.slice q 0 len len true)=some l:=by
   show Ax (Nat.beq len 0) (some []) (Yq h q 0 (Nat.mul len sz))=_;have:Nat.beq len 0=false:=by cases len with|zero=>omega|succ n=>rfl
   rw[this,Bc];unfold Yq Awy;rw[u];exact Aj hlen
  refine⟨(h.del q).new (.vec (l++new) e sz),?_,.inr ⟨by omega,rfl,?_,by rw[aG,hlen,hs,fP]⟩,rfl,?_⟩
  ·unfold Eg
   simp only[f,Gu,e0,Bc,g,m,u,aO d,aO p,Ak];rw[show Nat.beq 0 0=true from rfl,Ak,cI,Ak,Bf,hlen,show Nat.beq (len*sz) (Nat.mul len sz)=true from cI _,Ak,cI,Ak,cI,Ak,Au8];rfl
  ·rw[show h.next=(h.del q).next from rfl,Ad]
  ·exact(As.del h (.inl ⟨A,rfl⟩)).trans (As.new _ _)
theorem S7 {z:List EV}(f:v.plain=true)(g:z.length=sz)(d:v.cells.length=sz)(hs:sz<=65536):Cd z e sz 1 [(0,v)] h=some (.slice h.next 0 1 1 false,h.new (.cells v.cells e)):=by
 unfold Cd;rw[aO (show Nat.mul 1 sz<=65536 by show 1*sz<=65536;omega),Ak];have m:Abp (Ll sz) [(0,v)] (rep z 1)=some v.cells:=by
  show oB (Bfx fun off size=>Ax v.plain (Ax (Nat.beq (Fl v.cells) size) (oB _ (Mq (rep z 1) off v.cells)) none) none) (Ll sz 0)=_;show Ax v.plain (Ax (Nat.beq (Fl v.cells) sz) (oB _ (Mq (rep z 1) (Nat.mul 0 sz) v.cells)) none) none=_;rw[f,Ak,Bf,d,cI,Ak];have:rep z 1=z:=by show z++[]=z;rw[cS]
  rw[this,show Nat.mul 0 sz=0 from fR sz,Bl (by rw[g,d])];rfl
 rw[m];rfl
theorem Xt {b:Nat}{l:List EV}(hb:h.get b=some (.cells l e))(d:l.length=sz):Pk h sz 1 (.slice b 0 1 1 false)=some l:=by
 show Ax (Nat.beq 1 0) (some []) (Yq h b 0 (Nat.mul 1 sz))=_;rw[show Nat.beq 1 0=false from rfl,Bc];unfold Yq Awy;rw[hb];exact Aj (by rw[d];show sz=1*sz;omega)
theorem L7 {s:EV}{len:Nat}{l z:List EV}{k:EV->Ab->R}(r:Cc h s q e sz len l)(hb:HB h)(g:v.plain=true)(m:z.length=sz)(d:v.cells.length=sz)(hs:sz<=65536)(f:len<=1048575)
 (p:∀h',Cc h' (.slice (h.next+1) 0 (len+1) (len+1) true) (h.next+1) e sz (len+1) (l++v.cells)->h'.next=h.next+2->As (fun i=>0<len/\i=q) h h'->Ok (k (.slice (h.next+1) 0 (len+1) (len+1) true) h') Q) :
 Ok (Am (Cd z e sz 1 [(0,v)] h) fun w h=>Am (Eg e sz s w h) k) Q:=by
 rw[S7 g m d hs,Aq];have u:Cc (h.new (.cells v.cells e)) s q e sz len l:=r.frame fun f=>Az _ (hb q _ (r.block f))
 obtain⟨h',e1,A,B,c2⟩:=Aav (n:=1) (x:=.slice h.next 0 1 1 false) u rfl (by omega) (by omega) (by omega) (Xt (Ad _ _) d) (by rw[d];omega);rw[e1,Aq];exact p h' A B ((As.new h _).trans c2)
end Go.Ev
