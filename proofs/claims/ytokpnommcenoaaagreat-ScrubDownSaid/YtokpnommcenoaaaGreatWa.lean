import Derived.Test.YtokpnommcenoaaaGreatTab
import Derived.Test.YtokpnommcenoaaaGreatEvSix
set_option linter.all false
namespace Go.Ev
variable {v:EV}{h h' h0:Ab}{P Q:EV->Ab->Prop}{i j n q sz:Nat}{kk:Ab->R}{ps:List (Nat × EV)}{e:TypeId}{kh:EV->Ab->R}{ke:EV->Ab->DX->R}
section
def Ok(x:R)(Q:EV->Ab->Prop):Prop:=∃v h,x=some (v,h)/\Q v h
theorem Ok.ret(q:Q v h):Ok (some (v,h)) Q:=⟨v,h,rfl,q⟩
theorem Ok.mono {x:R}(a:Ok x P)(b:∀v h,P v h->Q v h):Ok x Q:=by
 obtain⟨v,h,e,p⟩:=a;exact⟨v,h,e,b v h p⟩
theorem Ok.Am {x:R}{k:EV->Ab->R}(a:Ok x P)(b:∀v h,P v h->Ok (k v h) Q):Ok (Am x k) Q:=by
 obtain⟨v,h,e,p⟩:=a;rw[e];exact b v h p
theorem Ok.eq {x y:R}(e:x=y)(a:Ok y Q):Ok x Q:=by rw[e];exact a
def HB(h:Ab):Prop:=∀q o,h.get q=some o->q<h.next
theorem HB.new(a:HB h)(o:By):HB (h.new o):=fun q x e=>by
 rw[Ab.Lb]at e;split at e
 ·rename_i d;rw[Ab.Di];omega
 ·exact Nat.lt_succ_of_lt (a q x e)
theorem HB.put(a:HB h)(d:i<h.next)(o:By):HB (h.put i o):=fun q x e=>by
 rw[Ab.get_put]at e;split at e
 ·rename_i f;subst f;exact d
 ·exact a q x e
theorem HB.del(a:HB h)(i:Nat):HB (h.del i):=fun q x e=>by
 rw[Ab.Aa1]at e;split at e
 ·cases e
 ·exact a q x e
structure Au(S:Nat->Prop)(h h':Ab):Prop where
 get:∀i,i<h.next->¬S i->h'.get i=h.get i
 next:h.next<=h'.next
 mw:∀w,w<=h.mw->w<=h.next->(∀i,S i->w<=i)->w<=h'.mw
 hb:HB h->HB h'
abbrev Ext:Ab->Ab->Prop:=Au fun _=>False
variable {S T:Nat->Prop}{h1 h2 h3:Ab}
theorem Au.refl(h:Ab):Au S h h:=⟨fun _ _ _=>rfl,aD _,fun _ a _ _=>a,id⟩
theorem Au.trans(a:Au S h1 h2)(b:Au S h2 h3):Au S h1 h3:=
 ⟨fun i d hs=>by rw[b.get i (aN d a.next) hs,a.get i d hs],bQ a.next b.next,
  fun w w1 w2 w3=>b.mw w (a.mw w w1 w2 w3) (bQ w2 a.next) w3,fun x=>b.hb (a.hb x)⟩
theorem Au.mono(a:Au S h h')(st:∀i,S i->T i):Au T h h':=⟨fun i d hs=>a.get i d fun x=>hs (st i x),a.next,fun w w1 w2 w3=>a.mw w w1 w2 fun i d=>w3 i (st i d),a.hb⟩
theorem Au.then(a:Au S h1 h2)(b:Au T h2 h3)(st:∀i,T i->i<h1.next->S i):Au S h1 h3:=by
 refine⟨fun i d hs=>by rw[b.get i (aN d a.next) fun x=>hs (st i x d),a.get i d hs],bQ a.next b.next,fun w w1 w2 w3=>?_,fun x=>b.hb (a.hb x)⟩;refine b.mw w (a.mw w w1 w2 w3) (bQ w2 a.next) fun i d=>?_
 by_cases f:i<h1.next
 ·exact w3 i (st i d f)
 ·omega
theorem Ext.to(a:Ext h h'):Au S h h':=a.mono fun _ x=>x.elim
theorem Au.new(h:Ab)(o:By):Au S h (h.new o):=
 ⟨fun i d _=>Ay o d,by rw[Ab.Di];omega,fun w w1 _ _=>by rw[Ab.Bsi];exact w1,fun x=>x.new o⟩
theorem Au.put(h:Ab)(d:S i\/h.next<=i)(f:HB h->i<h.next)(o:By):Au S h (h.put i o):=by
 refine⟨fun j hj hs=>Af o fun e=>?_,by rw[Ab.Qg];exact aD _,fun w w1 w2 w3=>?_,fun x=>x.put (f x) o⟩
 ·subst e;rcases d with d|d
  ·exact hs d
  ·omega
 ·rw[Ab.Apc]
  rcases d with d|d
  ·have:=w3 i d;omega
  ·omega
theorem Au.del(h:Ab)(d:S i\/h.next<=i):Au S h (h.del i):=by
 refine⟨fun j hj hs=>Bec fun e=>?_,by rw[Ab.Aqt];exact aD _,fun w w1 w2 w3=>?_,fun x=>x.del i⟩
 ·subst e;rcases d with d|d
  ·exact hs d
  ·omega
 ·rw[Ab.A2u]
  rcases d with d|d
  ·have:=w3 i d;omega
  ·omega
theorem Au.Ao(x:Au S h0 h)(d:S i\/h0.next<=i)(f:i<h.next)(o:By):Au S h0 (h.put i o):=
 x.then (T:=fun j=>j=i) (Au.put (S:=fun j=>j=i) h (.inl rfl) (fun _=>f) o) fun j hj g=>by
  have e:j=i:=hj;subst e;rcases d with d|d
  ·exact d
  ·omega
theorem Au.C8(x:Au S h0 h)(o:By):Au S h0 (h.new o):=x.trans (Au.new _ _)
theorem Au.at(c:Au S h h')(hb:HB h){o:By}(g:h.get i=some o)(d:¬S i):h'.get i=some o:=by rw[c.get i (hb i o g) d];exact g
theorem Ext.at(c:Ext h h')(hb:HB h){o:By}(g:h.get i=some o):h'.get i=some o:=Au.at c hb g id
theorem Ba{o o':By}(a:h.get i=some o)(b:h.get j=some o')(n:o≠o'):i≠j:=fun e=>n (by rw[e,b]at a;cases a;rfl)
noncomputable def Ab.lift(h:Ab):Ab:=⟨h.t,h.next,h.next⟩
structure Ag9(h h':Ab):Prop where
 get:∀i,h'.get i=h.get i
 next:h'.next=h.next
theorem Ab6(h:Ab)(i:Nat):h.get i=h.t.get i:=by cases h;rfl
theorem Br(h:Ab)(i:Nat):h.lift.get i=h.get i:=by rw[Ab6,Ab6];rfl
theorem Alk(h:Ab):h.lift.next=h.next:=rfl
theorem Da(a:HB h):HB h.lift:=fun q o e=>a q o (by rw[<-Br];exact e)
theorem Ag9.lift(h:Ab):Ag9 h h.lift:=⟨Br h,rfl⟩
theorem Ag9.hb(a:Ag9 h h')(b:HB h):HB h':=fun q o e=>by rw[a.next];exact b q o (by rw[<-a.get];exact e)
section
variable {b:Nat}{s:DX}{call:Ab->R}{k:EV->Ab->DX->R}
theorem Ok.Js(hb:Aby b s=true)(d:loose b s.nw = [])(f:Ok (call h.lift) P)(he:∀v h1,P v h1->Ext h.lift h1)
 (g:∀v h1 h2,P v h1->Ag9 h1 h2->Ext h h2->Ok (k v h2 (s.big i)) Q):Ok (Js i b s h call k) Q:=by
 obtain⟨v,h1,e,p⟩:=f;have x:=he v h1 p;have m:H4 b s h=h.lift:=by unfold H4;rw[d];rfl
 have hm:h.next<=h1.mw:=x.mw h.next (aD _) (aD _) fun _ y=>y.elim
 have u:Ev.Js i b s h call k=k v ⟨h1.t,h1.next,h.mw⟩ (s.big i):=by
  show Ax (Aby b s) (Ev.Am (call (H4 b s h)) fun v h'=>L9 i b s h h' fun s h=>k v h s) none=_;rw[hb,Aj,m,e];show L9 i b s h h1 (fun s h=>k v h s)=_;unfold L9;rw[aO hm,Aj,d];rfl
 rw[u];refine g v h1 _ p ⟨fun i=>by rw[Ab6,Ab6],rfl⟩ ⟨fun i A B=>?_,x.next,fun w w1 _ _=>w1,fun y=>?_⟩
 ·rw[Ab6];show h1.t.get i=_;rw[<-Ab6,x.get i A B,Br]
 ·exact Ag9.hb (h:=h1) ⟨fun i=>by rw[Ab6,Ab6],rfl⟩ (x.hb (Da y))
theorem Ok.bE(d:Ok (call h.lift) P)(he:∀v h1,P v h1->Ext h.lift h1)(f:∀v h1 h2,P v h1->Ag9 h1 h2->Ext h h2->Ok (k v h2 (s.big i)) Q)(hb:Aby b s=true:=by kernel_rfl)(g:loose b s.nw = []:=by kernel_rfl):Ok (Ev.Js i b s h call k) Q:=Ok.Js hb g d he f
theorem Ok.Bkb(hb:Aby b s=true)(d:loose b s.nw = [])(m:∀w,Te b w s.Cz=true)(u:Ok (call h.lift) P)(he:∀v h1,P v h1->Au S h.lift h1)
 (f:∀v h1 h2 s',P v h1->Ag9 h1 h2->Au S h h2->(s'=s.big i\/∃w,s'=s.Agw i w/\w=h1.mw)->Ok (k v h2 s') Q):Ok (Ev.Js i b s h call k) Q:=by
 obtain⟨v,h1,e,p⟩:=u;have x:=he v h1 p;have A:H4 b s h=h.lift:=by unfold H4;rw[d];rfl
 have B:Ev.Js i b s h call k=L9 i b s h h1 fun s h=>k v h s:=by
  show Ax (Aby b s) (Ev.Am (call (H4 b s h)) fun v h'=>L9 i b s h h' fun s h=>k v h s) none=_;rw[hb,Aj,A,e];rfl
 rw[B];unfold L9;rw[d];have sm:∀w,Ag9 h1 ⟨h1.t,h1.next,w⟩:=fun w=>⟨fun i=>by rw[Ab6,Ab6],rfl⟩
 have g:∀w i,i<h.next->¬S i->(⟨h1.t,h1.next,w⟩:Ab).get i=h.get i:=fun w i C D=>by
  rw[(sm w).get,x.get i C D,Br]
 cases hle:Nat.ble h.next h1.mw with
 | true=>
  rw[Aj];exact f v h1 _ _ p (sm _) ⟨g _,x.next,fun w w1 _ _=>w1,fun y=>(sm _).hb (x.hb (Da y))⟩ (.inl rfl)
 | false=>
  rw[Bc,m,Aj];refine f v h1 _ _ p (sm _) ⟨g _,x.next,fun w w1 w2 w3=>?_,fun y=>(sm _).hb (x.hb (Da y))⟩ (.inr ⟨_,rfl,rfl⟩);have:=x.mw w w2 w2 w3;show w<=Ax (Nat.ble h.mw h1.mw) h.mw h1.mw;rw[Bn];split<;>assumption
theorem Ok.bC(d:Ok (call h.lift) P)(he:∀v h1,P v h1->Au S h.lift h1)
 (f:∀v h1 h2 s',P v h1->Ag9 h1 h2->Au S h h2->(s'=s.big i\/∃w,s'=s.Agw i w/\w=h1.mw)->Ok (k v h2 s') Q) (hb:Aby b s=true:=by kernel_rfl) (g:loose b s.nw = []:=by kernel_rfl) (m:∀w,Te b w s.Cz=true:=by exact fun _=>by kernel_rfl):Ok (Ev.Js i b s h call k) Q:=Ok.Bkb hb g m d he f
theorem Ce {b base o:Nat}{s:DX}{k:DX->R}(d:q<base)(f:Ax (E7 b q s.st) (X7 b q s.lou) false=true):Le i b base (.ptr q o) s k=k (s.ld i q):=by
 show Ax (A8l b base q s) _ none=_;unfold A8l;rw[aO (show Nat.succ q<=base from d),Aj,f,Aj]
theorem Gy {b base o:Nat}{s:DX}{k:DX->R}(d:q<base)(f:Ax (E7 b q s.st) (X7 b q s.lou) false=true:=by kernel_rfl):Le i b base (.ptr q o) s k=k (s.ld i q):=Ce d f
theorem Gh {b o:Nat}{s:DX}{k:DX->R}(d:A4g b q s=true:=by kernel_rfl):Bhi i b (.ptr q o) s k=k (s.sto i q):=by
 show Ax (A4g b q s) _ none=_;rw[d,Aj]
end
section
variable {o c s len:Nat}{l l':List EV}{t:TypeId}{k:EV->R}
noncomputable def rowOf:By->Option (List EV)
 | .cells l _=>some l
 | .vec l _ _=>some l
 | _=>none
theorem Ah {x:By}(f:h.get i=some x)(d:rowOf x=some l)(g:l[o]? = some v):Fy (.ptr i o) h k=k v:=by
 show oB _ (Awt (h.get i) o 1)=_;rw[f];have m:Mj l o 1=some [v]:=by
  obtain⟨h1,h2⟩:=bJ.1 g;rw[E6 (by omega),dI h1,h2];rfl
 cases x<;>first|(cases d;done)|(cases d;show oB _ (Mj l o 1)=_;rw[m];rfl)
theorem N5 {off d rm:Nat}{op:Bool}{kd:IntKind}(hj:j<d):Aal sz (.slice q off d rm op) (.int kd (j:Int)) k=k (.ptr q (off+j*sz)):=Bqa hj k kd
theorem Cn {x:By}(f:h.get i=some x)(d:rowOf x=some l)(g:Mj l o n=some l'):Q2 n (.ptr i o) h k=k (.agg l'):=by
 show oB _ (Awt (h.get i) o n)=_;rw[f];cases x<;>first|(cases d;done)|(cases d;show oB _ (Mj l o n)=_;rw[g];rfl)
theorem Aql(d:h.get i=some (.cells l t))(f:v.plain=true)(g:Fl v.cells=n)(m:Mh l o v.cells=some l'):stE n (.ptr i o) v h kk=kk (h.put i (.cells l' t)):=by
 show Ax v.plain (Ax (Nat.beq (Fl v.cells) n) (Ai8 h i (fun l=>Mh l o v.cells) kk) none) none=_;rw[f,Aj,g,cI,Aj,A3g d,m];rfl
theorem Bp6{z:Nat}(d:h.get i=some (.vec l t z))(f:v.plain=true)(g:Fl v.cells=n)(m:Mh l o v.cells=some l'):stE n (.ptr i o) v h kk=kk (h.put i (.vec l' t z)):=by
 show Ax v.plain (Ax (Nat.beq (Fl v.cells) n) (Ai8 h i (fun l=>Mh l o v.cells) kk) none) none=_;rw[f,Aj,g,cI,Aj];unfold Ai8;rw[d];simp only;rw[m];rfl
theorem Ok.st(l':List EV)(d:h.get i=some (.cells l t))(f:v.plain=true)(g:Fl v.cells=n)(m:Mh l o v.cells=some l')(p:Ok (kk (h.put i (.cells l' t))) Q):Ok (stE n (.ptr i o) v h kk) Q:=by
 rw[Aql d f g m];exact p
theorem nW(h:Ab)(o:By):∃h',h.new o=h'/\Ext h h'/\h'.get h.next=some o/\h'.next=h.next+1:=⟨_,rfl,Au.new _ _,Ad _ _,rfl⟩
theorem nP(h:Ab)(z o:By):∃h',(h.new z).put h.next o=h'/\Ext h h'/\h'.get h.next=some o/\h'.next=h.next+1:=⟨_,rfl,(Au.new h _:Ext _ _).Ao (.inr (aD _)) (aR _) _,Ae _ _ _,rfl⟩
theorem Ok.mk {z xs:List EV}(f:z.length=n)(d:xs.length=n)(g:∀h',Ext h h'->h'.get h.next=some (.cells xs t)->h'.next=h.next+1->Ok (kk h') Q):Ok (stE n (.ptr h.next 0) (.agg xs) (h.new (.cells z t)) kk) Q:=by
 obtain⟨h',e,a,b,c⟩:=nP h (.cells z t) (.cells xs t);refine Ok.st xs (Ad _ _) rfl (by show Fl xs=n;rw[Bf,d]) (Bm (by show z.length=xs.length;rw[f,d])) ?_;rw[e];exact g h' a b c
theorem Ok.st1(f:h.get i=some (.cells l t))(g:v.plain=true)(d:v.cells = [v])(m:o<l.length)(p:Ok (kk (h.put i (.cells (l.set o v) t))) Q):Ok (stE 1 (.ptr i o) v h kk) Q:=by
 rw[Aql f g (by rw[d];rfl) (by rw[d];exact A5l v l o m)];exact p
theorem Bp0(d:v.plain=true):P9 t v h kh=kh (.ptr h.next 0) (h.new (.cells v.cells t)):=by unfold P9;rw[d,Aj]
theorem A1x {a b:EV}{x:Bool}:As2 (.bool x) a b k=Ax x (k a) (k b):=rfl
theorem Bnz {kk:Nat->DX->R}:Wm h kk=kk h.next ⟨0,[],[],[],[]⟩:=rfl
theorem Ap:Am (some (v,h')) kh=kh v h':=rfl
theorem Vo {off d:Nat}{kd:IntKind}(hj:j<d):Axi d sz (.ptr q off) (.int kd (j:Int)) k=k (.ptr q (off+j*sz)):=by
 show Ax (Nat.ble (Nat.succ j) d) _ none=_;rw[aO hj,Aj];rfl
theorem A5p {kd d:IntKind}{x:Int}:Sf kd (.int d x) k=k (.int kd (Cx kd x)):=rfl
theorem Blc {kd:IntKind}{x:Int}:Bc1 (.int kd x) k=k (.int kd (Cx kd (0-x))):=rfl
theorem Ati(d:l[o]? = some v):Vu o false 0 (.agg l) k=k v:=by
 show oB k (A1r l o)=_;rw[Aw4,d];rfl
theorem Aw {place:Nat->Option (Nat × Nat)}{z:List EV}(d:Aca place ps z=some l):Bo place z ps k=k (.agg l):=by
 unfold Bo;rw[d];rfl
theorem Ak {l:List EV}(d:l.length=n):Mj l 0 n=some l:=by
 subst d;rw[E6 (by omega),dE,cL]
theorem Cg {n:Int}(h1 : -9223372036854775808<=n:=by omega)(h2:n<=9223372036854775807:=by omega):Cx .i64 n=n:=A4k h1 (by omega)
end
theorem Boh {b:Int}{T:Hh}{t:Nat}{a:Int}{k:EV->R}(hb:0<b)(h1:0<=a)(h2:a<9223372036854775808):Agi (bin T .quo t) (.int .i64 a) (.int .i64 b) k=k (.int .i64 (a/b)):=by
 obtain⟨n,rfl⟩:=aZ (Int.le_of_lt hb);show oB k (Ax (eqB (.ofNat n) 0) none (some (.int .i64 (Cx .i64 (a.tdiv (.ofNat n))))))=_;have:eqB (.ofNat n) 0=false:=by
  show Nat.beq n 0=false;cases n with
  | zero=>exact absurd hb (by decide)
  | succ n=>rfl
 rw[this,Bc];have e:a.tdiv (.ofNat n)=a/n:=Int.tdiv_eq_ediv_of_nonneg h1;have h3:a/(n:Int)<=a:=Int.ediv_le_self _ h1;have h4:0<=a/(n:Int):=Int.ediv_nonneg h1 (by omega);rw[e,A4k (by omega) (by omega)];rfl
section
variable {v' w w' a a' b b' x':EV}{x y r r':R}{k:EV->R}{kd:DX->R}{kb:Nat->DX->R}
@[congr] theorem Ok.c {Q:EV->Ab->Prop}(e:r=r'):Ok r Q=Ok r' Q:=by rw[e]
@[congr] theorem Ax.c {α:Type}{p q:Bool}{x y:α}(e:p=q):Ax p x y=Ax q x y:=by rw[e]
@[congr] theorem oB.c {α β:Type}{k:α->Option β}{p q:Option α}(e:p=q):oB k p=oB k q:=by rw[e]
@[congr] theorem Am.c(e:r=r'):Am r kh=Am r' kh:=by rw[e]
@[congr] theorem Fy.c(e:v=v'):Fy v h k=Fy v' h k:=by rw[e]
@[congr] theorem Q2.c {n:Nat}(e:v=v'):Q2 n v h k=Q2 n v' h k:=by rw[e]
@[congr] theorem stE.c {n:Nat}(e:a=a')(e':v=v'):stE n a v h kk=stE n a' v' h kk:=by rw[e,e']
@[congr] theorem Ax0.c {o o':By}(e:o=o'):Ax0 o h kh=Ax0 o' h kh:=by rw[e]
@[congr] theorem P9.c {t:Nat}(e:v=v'):P9 t v h kh=P9 t v' h kh:=by rw[e]
@[congr] theorem Ko.c {g:IG}{f:EV->EV->Option EV}(e:v=v')(e':w=w'):Ko g f v w k=Ko g f v' w' k:=by rw[e,e']
@[congr] theorem Agi.c {f:EV->EV->Option EV}(e:v=v')(e':w=w'):Agi f v w k=Agi f v' w' k:=by rw[e,e']
@[congr] theorem As2.c(e:v=v'):As2 v a b k=As2 v' a b k:=by rw[e]
@[congr] theorem Aq5.c(e:v=v'):Aq5 v k=Aq5 v' k:=by rw[e]
@[congr] theorem Bc1.c(e:v=v'):Bc1 v k=Bc1 v' k:=by rw[e]
@[congr] theorem Ars.c(e:v=v'):Ars v k=Ars v' k:=by rw[e]
@[congr] theorem Ag8.c {n:Nat}(e:v=v'):Ag8 n v k=Ag8 n v' k:=by rw[e]
@[congr] theorem Axi.c {n m:Nat}(e:v=v')(e':w=w'):Axi n m v w k=Axi n m v' w' k:=by rw[e,e']
@[congr] theorem Aal.c {n:Nat}(e:v=v')(e':w=w'):Aal n v w k=Aal n v' w' k:=by rw[e,e']
@[congr] theorem Azl.c {n m q:Nat}{g:Bool}(e:v=v')(e':w=w'):Azl n m g q v w k=Azl n m g q v' w' k:=by rw[e,e']
@[congr] theorem Vu.c {n m:Nat}{g:Bool}(e:v=v'):Vu n g m v k=Vu n g m v' k:=by rw[e]
@[congr] theorem Sf.c {c:IntKind}(e:v=v'):Sf c v k=Sf c v' k:=by rw[e]
@[congr] theorem Asy.c {n:Nat}(e:v=v'):Asy n v k=Asy n v' k:=by rw[e]
@[congr] theorem Hc.c(e:v=v'):Hc v k=Hc v' k:=by rw[e]
@[congr] theorem A2e.c {n:Nat}(e:v=v'):A2e n v k=A2e n v' k:=by rw[e]
@[congr] theorem Bo.c {place:Nat->Option (Nat × Nat)}{z:List EV}{ps d:List (Nat × EV)}(e:ps=d):Bo place z ps k=Bo place z d k:=by rw[e]
@[congr] theorem Aex.c {n:Nat}{m d p f u g:Option EV}(e:v=v')(e1:m=d)(e2:p=f)(e3:u=g):Aex n v m p u k=Aex n v' d f g k:=by rw[e,e1,e2,e3]
@[congr] theorem Nv.c {n m:Nat}{p d u f A g:Option EV}(e:v=v')(e1:p=d)(e2:u=f)(e3:A=g):Nv n m v p u A k=Nv n m v' d f g k:=by rw[e,e1,e2,e3]
@[congr] theorem ifE.c(e:v=v'):ifE v x y=ifE v' x y:=by rw[e]
@[congr] theorem Wm.c(e:h=h'):Wm h kb=Wm h' kb:=by rw[e]
@[congr] theorem Le.c {i b base:Nat}{s:DX}(e:v=v'):Le i b base v s kd=Le i b base v' s kd:=by rw[e]
@[congr] theorem Bhi.c {i b:Nat}{s:DX}(e:v=v'):Bhi i b v s kd=Bhi i b v' s kd:=by rw[e]
@[congr] theorem Bci.c {i:Nat}{s s':DX}(e:s=s'):Bci i h s kd=Bci i h s' kd:=by rw[e]
@[congr] theorem Js.c {i b:Nat}{s s':DX}{call:Ab->R}(e:s=s'):Js i b s h call ke=Js i b s' h call ke:=by rw[e]
@[congr] theorem Uv.c {c:Ai}{T:Hh}{g n i:Nat}{tm:Bb}{ds:List Nat}{d:Ab->List Nat->R}{f:Nat->Ab->List Nat->R}{m:Ab->List Nat->R}(e:v=v'):Uv c T g n i v tm h ds d f m=Uv c T g n i v' tm h ds d f m:=by rw[e]
@[congr] theorem Arp.c {c:Ai}{T:Hh}{g n i l0:Nat}{tm:Bb}{ds:List Nat}{d:Ab->List Nat->R}{f:Nat->Ab->List Nat->R}{m:Ab->List Nat->R}(e:v=v'):Arp c T g n i l0 v tm h ds d f m=Arp c T g n i l0 v' tm h ds d f m:=by rw[e]
@[congr] theorem Et.c {l:Nat}(e:h=h'):Et l h kk=Et l h' kk:=by rw[e]
end
theorem Cz{x:By}{l:List EV}(f:h.get i=some x)(d:rowOf x=some l):∀(o:Nat) (k:EV->R),Fy (.ptr i o) h k=oB k l[o]?:=by
 intro o k;cases g:l[o]? with
 | some v=>exact Ah f d g
 | none=>
  show oB _ (Awt (h.get i) o 1)=_;rw[f];have m:l.length<=o:=List.getElem?_eq_none_iff.1 g;have p:Mj l o 1=none:=by
   rw[Ai7,St,List.drop_eq_nil_of_le m];rfl
  cases x<;>first|(cases d;done)|(cases d;show oB _ (Mj l o 1)=_;rw[p];rfl)
theorem Cy{x:By}{l:List EV}(f:h.get i=some x)(d:rowOf x=some l):∀(n o:Nat) (k:EV->R),Q2 n (.ptr i o) h k=oB (fun l=>k (.agg l)) (Mj l o n):=by
 intro n o k;show oB _ (Awt (h.get i) o n)=_;rw[f];cases x<;>first|(cases d;done)|(cases d;rfl)
theorem Aa:Zs/\Zi /\
 (∀(i o:Nat) (k:EV->R),Ars (.ptr i o) k=k (.ptr i o))/\(∀(c i o:Nat) (k:EV->R),Ag8 c (.ptr i o) k=k (.ptr i (o+c))) /\
 (∀(o:By) (h:Ab) (k:EV->Ab->R),Ax0 o h k=k (.ptr h.next 0) (h.new o)) /\
 (∀(t:Nat) (c:IntKind) (n:Int) (h:Ab) (k:EV->Ab->R),P9 t (.int c n) h k=k (.ptr h.next 0) (h.new (.cells [.int c n] t))) /\
 (∀(t:Nat) (l:List EV) (h:Ab) (k:EV->Ab->R),P9 t (.agg l) h k=k (.ptr h.next 0) (h.new (.cells l t))) /\
 (∀(t i o:Nat) (h:Ab) (k:EV->Ab->R),P9 t (.ptr i o) h k=k (.ptr h.next 0) (h.new (.cells [.ptr i o] t))) /\
 (∀(t i o n m:Nat) (p:Bool) (h:Ab) (k:EV->Ab->R),P9 t (.slice i o n m p) h k=k (.ptr h.next 0) (h.new (.cells [.slice i o n m p] t))) /\
 (∀(t:Nat) (h:Ab) (k:EV->Ab->R),P9 t .Al h k=k (.ptr h.next 0) (h.new (.cells [.Al] t))) /\
 (∀(x:Bool) (a b:EV) (k:EV->R),As2 (.bool x) a b k=Ax x (k a) (k b)) /\
 (∀(x:Bool) (k:EV->R),Aq5 (.bool x) k=Ax x (k (.bool false)) (k (.bool true))) /\
 (∀(x:Bool) (a b:R),ifE (.bool x) a b=Ax x a b) /\
 (∀(k:EV->R),Hc .Al k=k (.int .i64 0))/\(∀(q off d rm:Nat) (op:Bool) (k:EV->R),Hc (.slice q off d rm op) k=k (.int .i64 (d:Int))) /\
 (∀(o:Nat) (l:List EV) (k:EV->R),Asy o (.tuple l) k=oB k l[o]?) /\
 (∀(h:Ab) (k:Nat->DX->R),Wm h k=k h.next ⟨0,[],[],[],[]⟩)/\(∀(i:Nat) (h:Ab) (s:DX) (k:DX->R),Bci i h s k=k (s.new i h.next)) /\
 (∀(v:EV) (h:Ab) (k:EV->Ab->R),Am (some (v,h)) k=k v h) /\
 (∀(o:Nat) (l:List EV) (k:EV->R),Vu o false 0 (.agg l) k=oB k l[o]?) /\
 (∀(c f:IntKind) (n:Int) (k:EV->R),Sf c (.int f n) k=k (.int c (Cx c n))) /\
 (∀(x y:R),Ax true x y=x)/\(∀(x y:R),Ax false x y=y)/\(Ax true true false=true)/\(Ax false true false=false)/\(Ax true false true=false)/\(Ax false false true=true)/\Ap3 true=false/\Ap3 false=true /\
 (∀(k:EV->R) (v:EV),oB k (some v)=k v)/\(∀(h:Ab) (v:EV),Ii TT [.v v] h=some (v,h))/\(∀(h:Ab) (v w:EV),Ii TT [.v v,.v w] h=some (.tuple [v,w],h))/\(∀(h:Ab) (v w x:EV),Ii TT [.v v,.v w,.v x] h=some (.tuple [v,w,x],h)) /\
 (∀(h:Ab) (k:Ab->R),Fi [] h k=k h)/\(∀(p:EV) (r:List EV),(p::r)[0]? = some p)/\(∀(p:EV) (r:List EV) (n:Nat),(p::r)[n+1]? = r[n]?)/\(∀n:Nat,0+n=n)/\(∀(k:List EV->R) (l:List EV),oB k (some l)=k l):=
 ⟨dz,dzi,fun _ _ _=>rfl,fun _ _ _ _=>rfl,fun _ _ _=>rfl,fun _ _ _ _ _=>rfl,fun _ _ _ _=>rfl,fun _ _ _ _ _=>rfl,fun _ _ _ _ _ _ _ _=>rfl,fun _ _ _=>rfl,fun _ _ _ _=>rfl,fun _ _=>rfl,fun _ _ _=>rfl,
  fun _=>rfl,fun _ _ _ _ _ _=>rfl,fun o l k=>by show oB k (A1r l o)=_;rw[Aw4],fun _ _=>rfl,fun _ _ _ _=>rfl,fun _ _ _=>rfl,fun o l k=>by show oB k (A1r l o)=_;rw[Aw4],fun _ _ _ _=>rfl,
  fun _ _=>rfl,fun _ _=>rfl,rfl,rfl,rfl,rfl,rfl,rfl,fun _ _=>rfl,fun _ _=>rfl,fun _ _ _=>rfl,fun _ _ _ _=>rfl,fun _ _=>rfl,fun _ _=>rfl,fun _ _ _=>rfl,bF,fun _ _=>rfl⟩
theorem Ar:
 (∀(s:DX) (i q:Nat),s.ld i q=⟨s.bg,s.nw,(Nat.shiftLeft 1 i,q)::s.Cz,s.lou,s.st⟩)/\(∀(s:DX) (i q:Nat),s.new i q=⟨s.bg,(Nat.shiftLeft 1 i,q)::s.nw,s.Cz,s.lou,s.st⟩) /\
 (∀(s:DX) (i:Nat),s.big i=⟨Nat.lor s.bg (Nat.shiftLeft 1 i),s.nw,s.Cz,s.lou,s.st⟩)/\(∀(b q:Nat),E7 b q []=true)/\(∀(b q:Nat),X7 b q []=true):=
 ⟨fun _ _ _=>rfl,fun _ _ _=>rfl,fun _ _=>rfl,fun _ _=>rfl,fun _ _=>rfl⟩
theorem Ac:Zs/\Zi /\
 (∀(g:IG) (f:EV->EV->Option EV) (x y:Int) (k:EV->R),Ko g f (.int .i64 x) (.int .i64 y) k=k (g .i64 x y)) /\
 (∀(c:IntKind) (a b:Int),Iy c a b=.bool (decide (a<b)))/\(∀(c:IntKind) (a b:Int),Bdb c a b=.bool (decide (a<=b))) /\
 (∀(c:IntKind) (a b:Int),Baf c a b=.bool (decide (b<a)))/\(∀(c:IntKind) (a b:Int),Bcy c a b=.bool (decide (b<=a))) /\
 (∀(c:IntKind) (a b:Int),Aj7 c a b=.bool (decide (a=b)))/\(∀(c:IntKind) (a b:Int),Aoa c a b=.bool (decide (¬a=b))) /\
 (∀(c:IntKind) (a b:Int),A3o c a b=.int c (Cx c (a+b)))/\(∀(c:IntKind) (a b:Int),Ber c a b=.int c (Cx c (a-b)))/\(∀(c:IntKind) (a b:Int),Bhq c a b=.int c (Cx c (a*b))) /\
 (∀(b w:Bool),D6 (.bool b) w=Ax b w (Ap3 w))/\(∀w,D6 (.tuple []) w=false):=
 ⟨dz,dzi,fun _ _ _ _ _=>rfl,fun _ a b=>by rw[Bpl,Axb],fun _ a b=>by rw[Bo9,Axb,Av4];congr 1;exact eS.2 (by omega),
  fun _ a b=>by rw[Bq6,Axb],fun _ a b=>by rw[Bqg,Axb,Av4];congr 1;exact eS.2 (by omega),
  fun _ a b=>by rw[Brd,A0a],fun _ a b=>by rw[Be3,A0a,Av4],
  fun _ a b=>by rw[Bps,Bhd],fun _ a b=>by unfold Ber;rw[Bcu],fun _ a b=>rfl,fun _ _=>rfl,fun _=>rfl⟩
end
def Cc(h:Ab)(s:EV)(q:Nat)(e:TypeId)(sz len:Nat)(l:List EV):Prop:=
 (len=0/\l = []/\(s=.Al\/∃b,s=.slice b 0 0 0 false))\/(0<len/\s=.slice q 0 len len true/\h.get q=some (.vec l e sz)/\l.length=len*sz)
theorem Cc.nil(h:Ab)(q:Nat)(e:TypeId)(sz:Nat):Cc h .Al q e sz 0 []:=.inl ⟨rfl,rfl,.inl rfl⟩
theorem Cc.empty(h:Ab)(b q:Nat)(e:TypeId)(sz:Nat):Cc h (.slice b 0 0 0 false) q e sz 0 []:=.inl ⟨rfl,rfl,.inr ⟨_,rfl⟩⟩
theorem Cc.frame {s:EV}{len:Nat}{l:List EV}(r:Cc h s q e sz len l)(g:0<len->h'.get q=h.get q):Cc h' s q e sz len l:=by
 rcases r with r|⟨a,b,c,d⟩
 ·exact .inl r
 ·exact .inr ⟨a,b,by rw[g a];exact c,d⟩
theorem Cc.len {s:EV}{len:Nat}{l:List EV}(r:Cc h s q e sz len l):lenOf s=some len:=by
 rcases r with⟨rfl,_,rfl|⟨_,rfl⟩⟩|⟨_,rfl,_⟩<;>rfl
theorem Cc.Hc {s:EV}{len:Nat}{l:List EV}(r:Cc h s q e sz len l)(k:EV->R):Ev.Hc s k=k (.int .i64 (len:Int)):=by
 unfold Ev.Hc;rw[r.len];rfl
theorem Cc.plain {s:EV}{len:Nat}{l:List EV}(r:Cc h s q e sz len l):s.plain=true/\s.cells = [s]:=by
 rcases r with⟨rfl,_,rfl|⟨_,rfl⟩⟩|⟨_,rfl,_⟩<;>exact⟨rfl,rfl⟩
theorem Cc.size {s:EV}{len:Nat}{l:List EV}(r:Cc h s q e sz len l):l.length=len*sz:=by
 rcases r with⟨rfl,rfl,_⟩|⟨_,_,_,d⟩
 ·rw[fQ];rfl
 ·exact d
theorem Cc.ix {s:EV}{len:Nat}{l:List EV}(r:Cc h s q e sz len l)(hj:j<len)(kd:IntKind)(k:EV->R):Aal sz s (.int kd (j:Int)) k=k (.ptr q (j*sz)):=by
 rcases r with⟨rfl,_,_⟩|⟨_,rfl,_,_⟩
 ·omega
 ·rw[N5 hj,bF]
theorem Cc.block {s:EV}{len:Nat}{l:List EV}(r:Cc h s q e sz len l)(d:0<len):h.get q=some (.vec l e sz):=by
 rcases r with⟨rfl,_,_⟩|⟨_,_,c,_⟩
 ·omega
 ·exact c
theorem Cc.slice {s:EV}{len:Nat}{l:List EV}(r:Cc h s q e sz len l)(d:0<len):s=.slice q 0 len len true:=by
 rcases r with⟨rfl,_,_⟩|⟨_,c,_⟩
 ·omega
 ·exact c
theorem Aac {s x:EV}{len:Nat}{l new:List EV}(r:Cc h s q e sz len l)(f:lenOf x=some n)(B:0<n)(d:n<=65536)(p:len<=1048576)(g:O8 h sz n x=some new)(hs:new.length=n*sz):
 ∃h',Ef e sz s x h=some (.slice h.next 0 (len+n) (len+n) true,h')/\Cc h' (.slice h.next 0 (len+n) (len+n) true) h.next e sz (len+n) (l++new)/\h'.next=h.next+1/\Au (fun i=>0<len/\i=q) h h':=by
 have e0:Nat.beq n 0=false:=by cases n with|zero=>omega|succ n=>rfl
 rcases r with⟨rfl,rfl,rfl|⟨b,rfl⟩⟩|⟨A,rfl,u,hlen⟩
 ·refine⟨h.new (.vec new e sz),?_,.inr ⟨by omega,rfl,?_,by rw[dN,bF];exact hs⟩,rfl,Au.new _ _⟩
  ·unfold Ef
   simp only[f,Gr,e0,Bc,g,aO d,Aj,bF]
  ·rw[Ad];rfl
 ·have e2:Nat.ble (Nat.add 0 n) 0=false:=by cases n with|zero=>omega|succ n=>show Nat.ble (0+(n+1)) 0=false;rw[bF];rfl
  have e3:O8 h sz 0 (.slice b 0 0 0 false)=some []:=rfl;refine⟨h.new (.vec new e sz),?_,.inr ⟨by omega,rfl,?_,by rw[dN,bF];exact hs⟩,rfl,Au.new _ _⟩
  ·unfold Ef
   simp only[f,Gr,e0,Bc,g,e3,e2,aO d,aO p,Aj];rfl
  ·rw[Ad];rfl
 ·have m:O8 h sz len (.slice q 0 len len true)=some l:=by
   show Ax (Nat.beq len 0) (some []) (Ye h q 0 (Nat.mul len sz))=_;have:Nat.beq len 0=false:=by cases len with|zero=>omega|succ n=>rfl
   rw[this,Bc];unfold Ye Ave;rw[u];exact Ak hlen
  refine⟨(h.del q).new (.vec (l++new) e sz),?_,.inr ⟨by omega,rfl,?_,by rw[aG,hlen,hs,fO]⟩,rfl,?_⟩
  ·unfold Ef
   simp only[f,Gr,e0,Bc,g,m,u,aO d,aO p,Aj];rw[show Nat.beq 0 0=true from rfl,Aj,cI,Aj,Bf,hlen,show Nat.beq (len*sz) (Nat.mul len sz)=true from cI _,Aj,cI,Aj,cI,Aj,Axc];rfl
  ·rw[show h.next=(h.del q).next from rfl,Ad]
  ·exact(Au.del h (.inl ⟨A,rfl⟩)).trans (Au.new _ _)
theorem Sl {z:List EV}(f:v.plain=true)(g:z.length=sz)(d:v.cells.length=sz)(hs:sz<=65536):Bz z e sz 1 [(0,v)] h=some (.slice h.next 0 1 1 false,h.new (.cells v.cells e)):=by
 unfold Bz;rw[aO (show Nat.mul 1 sz<=65536 by show 1*sz<=65536;omega),Aj];have m:Aca (Mg sz) [(0,v)] (rep z 1)=some v.cells:=by
  show oB (Bfy fun off size=>Ax v.plain (Ax (Nat.beq (Fl v.cells) size) (oB _ (Mh (rep z 1) off v.cells)) none) none) (Mg sz 0)=_;show Ax v.plain (Ax (Nat.beq (Fl v.cells) sz) (oB _ (Mh (rep z 1) (Nat.mul 0 sz) v.cells)) none) none=_;rw[f,Aj,Bf,d,cI,Aj];have:rep z 1=z:=by show z++[]=z;rw[cS]
  rw[this,show Nat.mul 0 sz=0 from fQ sz,Bm (by rw[g,d])];rfl
 rw[m];rfl
theorem X2 {b:Nat}{l:List EV}(hb:h.get b=some (.cells l e))(d:l.length=sz):O8 h sz 1 (.slice b 0 1 1 false)=some l:=by
 show Ax (Nat.beq 1 0) (some []) (Ye h b 0 (Nat.mul 1 sz))=_;rw[show Nat.beq 1 0=false from rfl,Bc];unfold Ye Ave;rw[hb];exact Ak (by rw[d];show sz=1*sz;omega)
theorem L0 {s:EV}{len:Nat}{l z:List EV}{k:EV->Ab->R}(r:Cc h s q e sz len l)(hb:HB h)(g:v.plain=true)(m:z.length=sz)(d:v.cells.length=sz)(hs:sz<=65536)(f:len<=1048575)
 (p:∀h',Cc h' (.slice (h.next+1) 0 (len+1) (len+1) true) (h.next+1) e sz (len+1) (l++v.cells)->h'.next=h.next+2->Au (fun i=>0<len/\i=q) h h'->Ok (k (.slice (h.next+1) 0 (len+1) (len+1) true) h') Q) :
 Ok (Am (Bz z e sz 1 [(0,v)] h) fun w h=>Am (Ef e sz s w h) k) Q:=by
 rw[Sl g m d hs,Ap];have u:Cc (h.new (.cells v.cells e)) s q e sz len l:=r.frame fun f=>Ay _ (hb q _ (r.block f))
 obtain⟨h',e1,A,B,c2⟩:=Aac (n:=1) (x:=.slice h.next 0 1 1 false) u rfl (by omega) (by omega) (by omega) (X2 (Ad _ _) d) (by rw[d];omega);rw[e1,Ap];exact p h' A B ((Au.new h _).trans c2)
end Go.Ev
