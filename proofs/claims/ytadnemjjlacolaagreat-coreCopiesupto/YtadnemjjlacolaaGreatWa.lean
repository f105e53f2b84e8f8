import Derived.Test.YtadnemjjlacolaaGreatTab
import Derived.Test.YtadnemjjlacolaaGreatEvSix
set_option linter.all false
namespace Go.Ev
variable {v:EV}{h h' h0:Ab}{P Q:EV->Ab->Prop}{i j n q sz:Nat}{kk:Ab->R}{ps:List (Nat × EV)}{e:TypeId}{kh:EV->Ab->R}{ke:EV->Ab->DX->R}
section
def Ok(x:R)(Q:EV->Ab->Prop):Prop:=∃v h,x=some (v,h)/\Q v h
theorem Ok.ret(q:Q v h):Ok (some (v,h)) Q:=⟨v,h,rfl,q⟩
theorem Ok.mono {x:R}(a:Ok x P)(b:∀v h,P v h->Q v h):Ok x Q:=by
 obtain⟨v,h,e,p⟩:=a;exact⟨v,h,e,b v h p⟩
theorem Ok.An {x:R}{k:EV->Ab->R}(a:Ok x P)(b:∀v h,P v h->Ok (k v h) Q):Ok (An x k) Q:=by
 obtain⟨v,h,e,p⟩:=a;rw[e];exact b v h p
theorem Ok.eq {x y:R}(e:x=y)(a:Ok y Q):Ok x Q:=by rw[e];exact a
def HB(h:Ab):Prop:=∀q o,h.get q=some o->q<h.next
theorem HB.new(a:HB h)(o:Ec):HB (h.new o):=fun q x e=>by
 rw[Ab.Nq]at e;split at e
 ·rename_i d;rw[Ab.D8];omega
 ·exact Nat.lt_succ_of_lt (a q x e)
theorem HB.put(a:HB h)(d:i<h.next)(o:Ec):HB (h.put i o):=fun q x e=>by
 rw[Ab.get_put]at e;split at e
 ·rename_i f;subst f;exact d
 ·exact a q x e
theorem HB.del(a:HB h)(i:Nat):HB (h.del i):=fun q x e=>by
 rw[Ab.Ae0]at e;split at e
 ·cases e
 ·exact a q x e
structure Av(S:Nat->Prop)(h h':Ab):Prop where
 get:∀i,i<h.next->¬S i->h'.get i=h.get i
 next:h.next<=h'.next
 mw:∀w,w<=h.mw->w<=h.next->(∀i,S i->w<=i)->w<=h'.mw
 hb:HB h->HB h'
abbrev Ext:Ab->Ab->Prop:=Av fun _=>False
variable {S T:Nat->Prop}{h1 h2 h3:Ab}
theorem Av.refl(h:Ab):Av S h h:=⟨fun _ _ _=>rfl,aE _,fun _ a _ _=>a,id⟩
theorem Av.trans(a:Av S h1 h2)(b:Av S h2 h3):Av S h1 h3:=
 ⟨fun i d hs=>by rw[b.get i (aK d a.next) hs,a.get i d hs],bN a.next b.next,
  fun w w1 w2 w3=>b.mw w (a.mw w w1 w2 w3) (bN w2 a.next) w3,fun x=>b.hb (a.hb x)⟩
theorem Av.mono(a:Av S h h')(st:∀i,S i->T i):Av T h h':=⟨fun i d hs=>a.get i d fun x=>hs (st i x),a.next,fun w w1 w2 w3=>a.mw w w1 w2 fun i d=>w3 i (st i d),a.hb⟩
theorem Av.then(a:Av S h1 h2)(b:Av T h2 h3)(st:∀i,T i->i<h1.next->S i):Av S h1 h3:=by
 refine⟨fun i d hs=>by rw[b.get i (aK d a.next) fun x=>hs (st i x d),a.get i d hs],bN a.next b.next,fun w w1 w2 w3=>?_,fun x=>b.hb (a.hb x)⟩;refine b.mw w (a.mw w w1 w2 w3) (bN w2 a.next) fun i d=>?_
 by_cases f:i<h1.next
 ·exact w3 i (st i d f)
 ·omega
theorem Ext.to(a:Ext h h'):Av S h h':=a.mono fun _ x=>x.elim
theorem Av.new(h:Ab)(o:Ec):Av S h (h.new o):=
 ⟨fun i d _=>Az o d,by rw[Ab.D8];omega,fun w w1 _ _=>by rw[Ab.Bu7];exact w1,fun x=>x.new o⟩
theorem Av.put(h:Ab)(d:S i\/h.next<=i)(f:HB h->i<h.next)(o:Ec):Av S h (h.put i o):=by
 refine⟨fun j hj hs=>Ag o fun e=>?_,by rw[Ab.Si];exact aE _,fun w w1 w2 w3=>?_,fun x=>x.put (f x) o⟩
 ·subst e;rcases d with d|d
  ·exact hs d
  ·omega
 ·rw[Ab.Atl]
  rcases d with d|d
  ·have:=w3 i d;omega
  ·omega
theorem Av.del(h:Ab)(d:S i\/h.next<=i):Av S h (h.del i):=by
 refine⟨fun j hj hs=>Bfh fun e=>?_,by rw[Ab.A5i];exact aE _,fun w w1 w2 w3=>?_,fun x=>x.del i⟩
 ·subst e;rcases d with d|d
  ·exact hs d
  ·omega
 ·rw[Ab.A45]
  rcases d with d|d
  ·have:=w3 i d;omega
  ·omega
theorem Av.Ar(x:Av S h0 h)(d:S i\/h0.next<=i)(f:i<h.next)(o:Ec):Av S h0 (h.put i o):=
 x.then (T:=fun j=>j=i) (Av.put (S:=fun j=>j=i) h (.inl rfl) (fun _=>f) o) fun j hj g=>by
  have e:j=i:=hj;subst e;rcases d with d|d
  ·exact d
  ·omega
theorem Av.Ds(x:Av S h0 h)(o:Ec):Av S h0 (h.new o):=x.trans (Av.new _ _)
theorem Av.at(c:Av S h h')(hb:HB h){o:Ec}(g:h.get i=some o)(d:¬S i):h'.get i=some o:=by rw[c.get i (hb i o g) d];exact g
theorem Ext.at(c:Ext h h')(hb:HB h){o:Ec}(g:h.get i=some o):h'.get i=some o:=Av.at c hb g id
theorem Bb{o o':Ec}(a:h.get i=some o)(b:h.get j=some o')(n:o≠o'):i≠j:=fun e=>n (by rw[e,b]at a;cases a;rfl)
noncomputable def Ab.lift(h:Ab):Ab:=⟨h.t,h.next,h.next⟩
structure Asm(h h':Ab):Prop where
 get:∀i,h'.get i=h.get i
 next:h'.next=h.next
theorem Ajp(h:Ab)(i:Nat):h.get i=h.t.get i:=by cases h;rfl
theorem Ci(h:Ab)(i:Nat):h.lift.get i=h.get i:=by rw[Ajp,Ajp];rfl
theorem Ao7(h:Ab):h.lift.next=h.next:=rfl
theorem D4(a:HB h):HB h.lift:=fun q o e=>a q o (by rw[<-Ci];exact e)
theorem Asm.lift(h:Ab):Asm h h.lift:=⟨Ci h,rfl⟩
theorem Asm.hb(a:Asm h h')(b:HB h):HB h':=fun q o e=>by rw[a.next];exact b q o (by rw[<-a.get];exact e)
section
variable {b:Nat}{s:DX}{call:Ab->R}{k:EV->Ab->DX->R}
theorem Ok.L5(hb:Aj0 b s=true)(d:loose b s.nw = [])(f:Ok (call h.lift) P)(he:∀v h1,P v h1->Ext h.lift h1)
 (g:∀v h1 h2,P v h1->Asm h1 h2->Ext h h2->Ok (k v h2 (s.big i)) Q):Ok (L5 i b s h call k) Q:=by
 obtain⟨v,h1,e,p⟩:=f;have x:=he v h1 p;have m:Mx b s h=h.lift:=by unfold Mx;rw[d];rfl
 have hm:h.next<=h1.mw:=x.mw h.next (aE _) (aE _) fun _ y=>y.elim
 have u:Ev.L5 i b s h call k=k v ⟨h1.t,h1.next,h.mw⟩ (s.big i):=by
  show Bf (Aj0 b s) (Ev.An (call (Mx b s h)) fun v h'=>Th i b s h h' fun s h=>k v h s) none=_;rw[hb,Ak,m,e];show Th i b s h h1 (fun s h=>k v h s)=_;unfold Th;rw[aS hm,Ak,d];rfl
 rw[u];refine g v h1 _ p ⟨fun i=>by rw[Ajp,Ajp],rfl⟩ ⟨fun i A B=>?_,x.next,fun w w1 _ _=>w1,fun y=>?_⟩
 ·rw[Ajp];show h1.t.get i=_;rw[<-Ajp,x.get i A B,Ci]
 ·exact Asm.hb (h:=h1) ⟨fun i=>by rw[Ajp,Ajp],rfl⟩ (x.hb (D4 y))
theorem Ok.bE(d:Ok (call h.lift) P)(he:∀v h1,P v h1->Ext h.lift h1)(f:∀v h1 h2,P v h1->Asm h1 h2->Ext h h2->Ok (k v h2 (s.big i)) Q)(hb:Aj0 b s=true:=by kernel_rfl)(g:loose b s.nw = []:=by kernel_rfl):Ok (Ev.L5 i b s h call k) Q:=Ok.L5 hb g d he f
theorem Ok.Bpc(hb:Aj0 b s=true)(d:loose b s.nw = [])(m:∀w,Ac9 b w s.C8=true)(u:Ok (call h.lift) P)(he:∀v h1,P v h1->Av S h.lift h1)
 (f:∀v h1 h2 s',P v h1->Asm h1 h2->Av S h h2->(s'=s.big i\/∃w,s'=s.Ag7 i w/\w=h1.mw)->Ok (k v h2 s') Q):Ok (Ev.L5 i b s h call k) Q:=by
 obtain⟨v,h1,e,p⟩:=u;have x:=he v h1 p;have A:Mx b s h=h.lift:=by unfold Mx;rw[d];rfl
 have B:Ev.L5 i b s h call k=Th i b s h h1 fun s h=>k v h s:=by
  show Bf (Aj0 b s) (Ev.An (call (Mx b s h)) fun v h'=>Th i b s h h' fun s h=>k v h s) none=_;rw[hb,Ak,A,e];rfl
 rw[B];unfold Th;rw[d];have sm:∀w,Asm h1 ⟨h1.t,h1.next,w⟩:=fun w=>⟨fun i=>by rw[Ajp,Ajp],rfl⟩
 have g:∀w i,i<h.next->¬S i->(⟨h1.t,h1.next,w⟩:Ab).get i=h.get i:=fun w i C D=>by
  rw[(sm w).get,x.get i C D,Ci]
 cases hle:Nat.ble h.next h1.mw with
 | true=>
  rw[Ak];exact f v h1 _ _ p (sm _) ⟨g _,x.next,fun w w1 _ _=>w1,fun y=>(sm _).hb (x.hb (D4 y))⟩ (.inl rfl)
 | false=>
  rw[Bo,m,Ak];refine f v h1 _ _ p (sm _) ⟨g _,x.next,fun w w1 w2 w3=>?_,fun y=>(sm _).hb (x.hb (D4 y))⟩ (.inr ⟨_,rfl,rfl⟩);have:=x.mw w w2 w2 w3;show w<=Bf (Nat.ble h.mw h1.mw) h.mw h1.mw;rw[Bt];split<;>assumption
theorem Ok.bC(d:Ok (call h.lift) P)(he:∀v h1,P v h1->Av S h.lift h1)
 (f:∀v h1 h2 s',P v h1->Asm h1 h2->Av S h h2->(s'=s.big i\/∃w,s'=s.Ag7 i w/\w=h1.mw)->Ok (k v h2 s') Q) (hb:Aj0 b s=true:=by kernel_rfl) (g:loose b s.nw = []:=by kernel_rfl) (m:∀w,Ac9 b w s.C8=true:=by exact fun _=>by kernel_rfl):Ok (Ev.L5 i b s h call k) Q:=Ok.Bpc hb g m d he f
theorem Cv {b base o:Nat}{s:DX}{k:DX->R}(d:q<base)(f:Bf (Gb b q s.st) (Acj b q s.lou) false=true):P8 i b base (.ptr q o) s k=k (s.ld i q):=by
 show Bf (Bag b base q s) _ none=_;unfold Bag;rw[aS (show Nat.succ q<=base from d),Ak,f,Ak]
theorem Ku {b base o:Nat}{s:DX}{k:DX->R}(d:q<base)(f:Bf (Gb b q s.st) (Acj b q s.lou) false=true:=by kernel_rfl):P8 i b base (.ptr q o) s k=k (s.ld i q):=Cv d f
theorem Lf {b o:Nat}{s:DX}{k:DX->R}(d:Bij b q s=true:=by kernel_rfl):Bmc i b (.ptr q o) s k=k (s.sto i q):=by
 show Bf (Bij b q s) _ none=_;rw[d,Ak]
end
section
variable {o c s len:Nat}{l l':List EV}{t:TypeId}{k:EV->R}
noncomputable def rowOf:Ec->Option (List EV)
 | .cells l _=>some l
 | .vec l _ _=>some l
 | _=>none
theorem Al {x:Ec}(f:h.get i=some x)(d:rowOf x=some l)(g:l[o]? = some v):Fm (.ptr i o) h k=k v:=by
 show oB _ (Aq4 (h.get i) o 1)=_;rw[f];have m:Oy l o 1=some [v]:=by
  obtain⟨h1,h2⟩:=aW.1 g;rw[Fw (by omega),dE h1,h2];rfl
 cases x<;>first|(cases d;done)|(cases d;show oB _ (Oy l o 1)=_;rw[m];rfl)
theorem Lv {off d rm:Nat}{op:Bool}{kd:IntKind}(hj:j<d):Z8 sz (.slice q off d rm op) (.int kd (j:Int)) k=k (.ptr q (off+j*sz)):=Brx hj k kd
theorem Bp {x:Ec}(f:h.get i=some x)(d:rowOf x=some l)(g:Oy l o n=some l'):Oz n (.ptr i o) h k=k (.agg l'):=by
 show oB _ (Aq4 (h.get i) o n)=_;rw[f];cases x<;>first|(cases d;done)|(cases d;show oB _ (Oy l o n)=_;rw[g];rfl)
theorem An9(d:h.get i=some (.cells l t))(hp:v.plain=true)(f:Gk v.cells=n)(g:O0 l o v.cells=some l'):stE n (.ptr i o) v h kk=kk (h.put i (.cells l' t)):=by
 show Bf v.plain (Bf (Nat.beq (Gk v.cells) n) (Ani h i (fun l=>O0 l o v.cells) kk) none) none=_;rw[hp,Ak,f,cO,Ak,A55 d,g];rfl
theorem Biu{z:Nat}(d:h.get i=some (.vec l t z))(hp:v.plain=true)(f:Gk v.cells=n)(g:O0 l o v.cells=some l'):stE n (.ptr i o) v h kk=kk (h.put i (.vec l' t z)):=by
 show Bf v.plain (Bf (Nat.beq (Gk v.cells) n) (Ani h i (fun l=>O0 l o v.cells) kk) none) none=_;rw[hp,Ak,f,cO,Ak];unfold Ani;rw[d];simp only;rw[g];rfl
theorem Ok.st(l':List EV)(d:h.get i=some (.cells l t))(hp:v.plain=true)(f:Gk v.cells=n)(g:O0 l o v.cells=some l')(m:Ok (kk (h.put i (.cells l' t))) Q):Ok (stE n (.ptr i o) v h kk) Q:=by
 rw[An9 d hp f g];exact m
theorem nW(h:Ab)(o:Ec):∃h',h.new o=h'/\Ext h h'/\h'.get h.next=some o/\h'.next=h.next+1:=⟨_,rfl,Av.new _ _,Ad _ _,rfl⟩
theorem nP(h:Ab)(z o:Ec):∃h',(h.new z).put h.next o=h'/\Ext h h'/\h'.get h.next=some o/\h'.next=h.next+1:=⟨_,rfl,(Av.new h _:Ext _ _).Ar (.inr (aE _)) (aL _) _,Af _ _ _,rfl⟩
theorem Ok.mk {z xs:List EV}(f:z.length=n)(d:xs.length=n)(g:∀h',Ext h h'->h'.get h.next=some (.cells xs t)->h'.next=h.next+1->Ok (kk h') Q):Ok (stE n (.ptr h.next 0) (.agg xs) (h.new (.cells z t)) kk) Q:=by
 obtain⟨h',e,a,b,c⟩:=nP h (.cells z t) (.cells xs t);refine Ok.st xs (Ad _ _) rfl (by show Gk xs=n;rw[Bc,d]) (Bm (by show z.length=xs.length;rw[f,d])) ?_;rw[e];exact g h' a b c
theorem Ok.st1(f:h.get i=some (.cells l t))(hp:v.plain=true)(d:v.cells = [v])(g:o<l.length)(m:Ok (kk (h.put i (.cells (l.set o v) t))) Q):Ok (stE 1 (.ptr i o) v h kk) Q:=by
 rw[An9 f hp (by rw[d];rfl) (by rw[d];exact A78 v l o g)];exact m
theorem Bry(hp:v.plain=true):Wy t v h kh=kh (.ptr h.next 0) (h.new (.cells v.cells t)):=by unfold Wy;rw[hp,Ak]
theorem A44 {a b:EV}{x:Bool}:Awc (.bool x) a b k=Bf x (k a) (k b):=rfl
theorem As:An (some (v,h')) kh=kh v h':=rfl
theorem Air {off d:Nat}{kd:IntKind}(hj:j<d):A0z d sz (.ptr q off) (.int kd (j:Int)) k=k (.ptr q (off+j*sz)):=by
 show Bf (Nat.ble (Nat.succ j) d) _ none=_;rw[aS hj,Ak];rfl
theorem A76 {kd d:IntKind}{x:Int}:Xp kd (.int d x) k=k (.int kd (Dz kd x)):=rfl
theorem Bmv {kd:IntKind}{x:Int}:Bgc (.int kd x) k=k (.int kd (Dz kd (0-x))):=rfl
theorem Aen(d:l[o]? = some v):Aej o false 0 (.agg l) k=k v:=by
 show oB k (A4e l o)=_;rw[Az6,d];rfl
theorem Ay {place:Nat->Option (Nat × Nat)}{z:List EV}(d:Afp place ps z=some l):Bv place z ps k=k (.agg l):=by
 unfold Bv;rw[d];rfl
theorem Ai {l:List EV}(d:l.length=n):Oy l 0 n=some l:=by
 subst d;rw[Fw (by omega),dC,cN]
theorem Cj {n:Int}(h1 : -9223372036854775808<=n:=by omega)(h2:n<=9223372036854775807:=by omega):Dz .i64 n=n:=A7l h1 (by omega)
end
theorem Bnd {b:Int}{T:Kh}{t:Nat}{a:Int}{k:EV->R}(hb:0<b)(h1:0<=a)(h2:a<9223372036854775808):Ale (bin T .quo t) (.int .i64 a) (.int .i64 b) k=k (.int .i64 (a/b)):=by
 obtain⟨n,rfl⟩:=aY (Int.le_of_lt hb);show oB k (Bf (eqB (.ofNat n) 0) none (some (.int .i64 (Dz .i64 (a.tdiv (.ofNat n))))))=_;have:eqB (.ofNat n) 0=false:=by
  show Nat.beq n 0=false;cases n with
  | zero=>exact absurd hb (by decide)
  | succ n=>rfl
 rw[this,Bo];have e:a.tdiv (.ofNat n)=a/n:=Int.tdiv_eq_ediv_of_nonneg h1;have h3:a/(n:Int)<=a:=Int.ediv_le_self _ h1;have h4:0<=a/(n:Int):=Int.ediv_nonneg h1 (by omega);rw[e,A7l (by omega) (by omega)];rfl
section
variable {v' w w' a a' b b' x':EV}{x y r r':R}{k:EV->R}{kd:DX->R}{kb:Nat->DX->R}
@[congr] theorem Ok.c {Q:EV->Ab->Prop}(e:r=r'):Ok r Q=Ok r' Q:=by rw[e]
@[congr] theorem Bf.c {α:Type}{p q:Bool}{x y:α}(e:p=q):Bf p x y=Bf q x y:=by rw[e]
@[congr] theorem oB.c {α β:Type}{k:α->Option β}{p q:Option α}(e:p=q):oB k p=oB k q:=by rw[e]
@[congr] theorem An.c(e:r=r'):An r kh=An r' kh:=by rw[e]
@[congr] theorem Fm.c(e:v=v'):Fm v h k=Fm v' h k:=by rw[e]
@[congr] theorem Oz.c {n:Nat}(e:v=v'):Oz n v h k=Oz n v' h k:=by rw[e]
@[congr] theorem stE.c {n:Nat}(e:a=a')(e':v=v'):stE n a v h kk=stE n a' v' h kk:=by rw[e,e']
@[congr] theorem Avo.c {o o':Ec}(e:o=o'):Avo o h kh=Avo o' h kh:=by rw[e]
@[congr] theorem Wy.c {t:Nat}(e:v=v'):Wy t v h kh=Wy t v' h kh:=by rw[e]
@[congr] theorem Kl.c {g:IG}{f:EV->EV->Option EV}(e:v=v')(e':w=w'):Kl g f v w k=Kl g f v' w' k:=by rw[e,e']
@[congr] theorem Ale.c {f:EV->EV->Option EV}(e:v=v')(e':w=w'):Ale f v w k=Ale f v' w' k:=by rw[e,e']
@[congr] theorem Awc.c(e:v=v'):Awc v a b k=Awc v' a b k:=by rw[e]
@[congr] theorem Arw.c(e:v=v'):Arw v k=Arw v' k:=by rw[e]
@[congr] theorem Bgc.c(e:v=v'):Bgc v k=Bgc v' k:=by rw[e]
@[congr] theorem Axv.c(e:v=v'):Axv v k=Axv v' k:=by rw[e]
@[congr] theorem Alc.c {n:Nat}(e:v=v'):Alc n v k=Alc n v' k:=by rw[e]
@[congr] theorem A0z.c {n m:Nat}(e:v=v')(e':w=w'):A0z n m v w k=A0z n m v' w' k:=by rw[e,e']
@[congr] theorem Z8.c {n:Nat}(e:v=v')(e':w=w'):Z8 n v w k=Z8 n v' w' k:=by rw[e,e']
@[congr] theorem A08.c {n m q:Nat}{g:Bool}(e:v=v')(e':w=w'):A08 n m g q v w k=A08 n m g q v' w' k:=by rw[e,e']
@[congr] theorem Aej.c {n m:Nat}{g:Bool}(e:v=v'):Aej n g m v k=Aej n g m v' k:=by rw[e]
@[congr] theorem Xp.c {c:IntKind}(e:v=v'):Xp c v k=Xp c v' k:=by rw[e]
@[congr] theorem Aso.c {n:Nat}(e:v=v'):Aso n v k=Aso n v' k:=by rw[e]
@[congr] theorem F3.c(e:v=v'):F3 v k=F3 v' k:=by rw[e]
@[congr] theorem A3t.c {n:Nat}(e:v=v'):A3t n v k=A3t n v' k:=by rw[e]
@[congr] theorem Bv.c {place:Nat->Option (Nat × Nat)}{z:List EV}{ps ps':List (Nat × EV)}(e:ps=ps'):Bv place z ps k=Bv place z ps' k:=by rw[e]
@[congr] theorem Ant.c {n:Nat}{m d p f u g:Option EV}(e:v=v')(e1:m=d)(e2:p=f)(e3:u=g):Ant n v m p u k=Ant n v' d f g k:=by rw[e,e1,e2,e3]
@[congr] theorem Uk.c {n m:Nat}{p d u f A g:Option EV}(e:v=v')(e1:p=d)(e2:u=f)(e3:A=g):Uk n m v p u A k=Uk n m v' d f g k:=by rw[e,e1,e2,e3]
@[congr] theorem ifE.c(e:v=v'):ifE v x y=ifE v' x y:=by rw[e]
@[congr] theorem Adz.c(e:h=h'):Adz h kb=Adz h' kb:=by rw[e]
@[congr] theorem P8.c {i b base:Nat}{s:DX}(e:v=v'):P8 i b base v s kd=P8 i b base v' s kd:=by rw[e]
@[congr] theorem Bmc.c {i b:Nat}{s:DX}(e:v=v'):Bmc i b v s kd=Bmc i b v' s kd:=by rw[e]
@[congr] theorem Bg2.c {i:Nat}{s s':DX}(e:s=s'):Bg2 i h s kd=Bg2 i h s' kd:=by rw[e]
@[congr] theorem L5.c {i b:Nat}{s s':DX}{call:Ab->R}(e:s=s'):L5 i b s h call ke=L5 i b s' h call ke:=by rw[e]
@[congr] theorem Zk.c {c:Ah}{T:Kh}{g n i:Nat}{tm:Ax}{ds:List Nat}{d:Ab->List Nat->R}{f:Nat->Ab->List Nat->R}{m:Ab->List Nat->R}(e:v=v'):Zk c T g n i v tm h ds d f m=Zk c T g n i v' tm h ds d f m:=by rw[e]
@[congr] theorem Au0.c {c:Ah}{T:Kh}{g n i l0:Nat}{tm:Ax}{ds:List Nat}{d:Ab->List Nat->R}{f:Nat->Ab->List Nat->R}{m:Ab->List Nat->R}(e:v=v'):Au0 c T g n i l0 v tm h ds d f m=Au0 c T g n i l0 v' tm h ds d f m:=by rw[e]
@[congr] theorem Fs.c {l:Nat}(e:h=h'):Fs l h kk=Fs l h' kk:=by rw[e]
end
theorem C8{x:Ec}{l:List EV}(f:h.get i=some x)(d:rowOf x=some l):∀(o:Nat) (k:EV->R),Fm (.ptr i o) h k=oB k l[o]?:=by
 intro o k;cases g:l[o]? with
 | some v=>exact Al f d g
 | none=>
  show oB _ (Aq4 (h.get i) o 1)=_;rw[f];have m:l.length<=o:=List.getElem?_eq_none_iff.1 g;have p:Oy l o 1=none:=by
   rw[Aly,Yi,List.drop_eq_nil_of_le m];rfl
  cases x<;>first|(cases d;done)|(cases d;show oB _ (Oy l o 1)=_;rw[p];rfl)
theorem Db{x:Ec}{l:List EV}(f:h.get i=some x)(d:rowOf x=some l):∀(n o:Nat) (k:EV->R),Oz n (.ptr i o) h k=oB (fun l=>k (.agg l)) (Oy l o n):=by
 intro n o k;show oB _ (Aq4 (h.get i) o n)=_;rw[f];cases x<;>first|(cases d;done)|(cases d;rfl)
theorem Aa:Zs/\Zi /\
 (∀(i o:Nat) (k:EV->R),Axv (.ptr i o) k=k (.ptr i o))/\(∀(c i o:Nat) (k:EV->R),Alc c (.ptr i o) k=k (.ptr i (o+c))) /\
 (∀(o:Ec) (h:Ab) (k:EV->Ab->R),Avo o h k=k (.ptr h.next 0) (h.new o)) /\
 (∀(t:Nat) (c:IntKind) (n:Int) (h:Ab) (k:EV->Ab->R),Wy t (.int c n) h k=k (.ptr h.next 0) (h.new (.cells [.int c n] t))) /\
 (∀(t:Nat) (l:List EV) (h:Ab) (k:EV->Ab->R),Wy t (.agg l) h k=k (.ptr h.next 0) (h.new (.cells l t))) /\
 (∀(t i o:Nat) (h:Ab) (k:EV->Ab->R),Wy t (.ptr i o) h k=k (.ptr h.next 0) (h.new (.cells [.ptr i o] t))) /\
 (∀(t i o n m:Nat) (p:Bool) (h:Ab) (k:EV->Ab->R),Wy t (.slice i o n m p) h k=k (.ptr h.next 0) (h.new (.cells [.slice i o n m p] t))) /\
 (∀(t:Nat) (h:Ab) (k:EV->Ab->R),Wy t .Ao h k=k (.ptr h.next 0) (h.new (.cells [.Ao] t))) /\
 (∀(x:Bool) (a b:EV) (k:EV->R),Awc (.bool x) a b k=Bf x (k a) (k b)) /\
 (∀(x:Bool) (k:EV->R),Arw (.bool x) k=Bf x (k (.bool false)) (k (.bool true))) /\
 (∀(x:Bool) (a b:R),ifE (.bool x) a b=Bf x a b) /\
 (∀(k:EV->R),F3 .Ao k=k (.int .i64 0))/\(∀(q off d rm:Nat) (op:Bool) (k:EV->R),F3 (.slice q off d rm op) k=k (.int .i64 (d:Int))) /\
 (∀(o:Nat) (l:List EV) (k:EV->R),Aso o (.tuple l) k=oB k l[o]?) /\
 (∀(h:Ab) (k:Nat->DX->R),Adz h k=k h.next ⟨0,[],[],[],[]⟩)/\(∀(i:Nat) (h:Ab) (s:DX) (k:DX->R),Bg2 i h s k=k (s.new i h.next)) /\
 (∀(v:EV) (h:Ab) (k:EV->Ab->R),An (some (v,h)) k=k v h) /\
 (∀(o:Nat) (l:List EV) (k:EV->R),Aej o false 0 (.agg l) k=oB k l[o]?) /\
 (∀(c f:IntKind) (n:Int) (k:EV->R),Xp c (.int f n) k=k (.int c (Dz c n))) /\
 (∀(x y:R),Bf true x y=x)/\(∀(x y:R),Bf false x y=y)/\(Bf true true false=true)/\(Bf false true false=false)/\(Bf true false true=false)/\(Bf false false true=true)/\Av0 true=false/\Av0 false=true /\
 (∀(k:EV->R) (v:EV),oB k (some v)=k v)/\(∀(h:Ab) (v:EV),Ji TT [.v v] h=some (v,h))/\(∀(h:Ab) (v w:EV),Ji TT [.v v,.v w] h=some (.tuple [v,w],h))/\(∀(h:Ab) (v w x:EV),Ji TT [.v v,.v w,.v x] h=some (.tuple [v,w,x],h)) /\
 (∀(h:Ab) (k:Ab->R),E1 [] h k=k h)/\(∀(p:EV) (r:List EV),(p::r)[0]? = some p)/\(∀(p:EV) (r:List EV) (n:Nat),(p::r)[n+1]? = r[n]?)/\(∀n:Nat,0+n=n)/\(∀(k:List EV->R) (l:List EV),oB k (some l)=k l):=
 ⟨dz,dzi,fun _ _ _=>rfl,fun _ _ _ _=>rfl,fun _ _ _=>rfl,fun _ _ _ _ _=>rfl,fun _ _ _ _=>rfl,fun _ _ _ _ _=>rfl,fun _ _ _ _ _ _ _ _=>rfl,fun _ _ _=>rfl,fun _ _ _ _=>rfl,fun _ _=>rfl,fun _ _ _=>rfl,
  fun _=>rfl,fun _ _ _ _ _ _=>rfl,fun o l k=>by show oB k (A4e l o)=_;rw[Az6],fun _ _=>rfl,fun _ _ _ _=>rfl,fun _ _ _=>rfl,fun o l k=>by show oB k (A4e l o)=_;rw[Az6],fun _ _ _ _=>rfl,
  fun _ _=>rfl,fun _ _=>rfl,rfl,rfl,rfl,rfl,rfl,rfl,fun _ _=>rfl,fun _ _=>rfl,fun _ _ _=>rfl,fun _ _ _ _=>rfl,fun _ _=>rfl,fun _ _=>rfl,fun _ _ _=>rfl,bJ,fun _ _=>rfl⟩
theorem Aw:
 (∀(s:DX) (i q:Nat),s.ld i q=⟨s.bg,s.nw,(Nat.shiftLeft 1 i,q)::s.C8,s.lou,s.st⟩)/\(∀(s:DX) (i q:Nat),s.new i q=⟨s.bg,(Nat.shiftLeft 1 i,q)::s.nw,s.C8,s.lou,s.st⟩) /\
 (∀(s:DX) (i:Nat),s.big i=⟨Nat.lor s.bg (Nat.shiftLeft 1 i),s.nw,s.C8,s.lou,s.st⟩)/\(∀(b q:Nat),Gb b q []=true)/\(∀(b q:Nat),Acj b q []=true):=
 ⟨fun _ _ _=>rfl,fun _ _ _=>rfl,fun _ _=>rfl,fun _ _=>rfl,fun _ _=>rfl⟩
theorem Ac:Zs/\Zi /\
 (∀(g:IG) (f:EV->EV->Option EV) (x y:Int) (k:EV->R),Kl g f (.int .i64 x) (.int .i64 y) k=k (g .i64 x y)) /\
 (∀(c:IntKind) (a b:Int),Iq c a b=.bool (decide (a<b)))/\(∀(c:IntKind) (a b:Int),Bf7 c a b=.bool (decide (a<=b))) /\
 (∀(c:IntKind) (a b:Int),Beh c a b=.bool (decide (b<a)))/\(∀(c:IntKind) (a b:Int),Bfp c a b=.bool (decide (b<=a))) /\
 (∀(c:IntKind) (a b:Int),An2 c a b=.bool (decide (a=b)))/\(∀(c:IntKind) (a b:Int),Alb c a b=.bool (decide (¬a=b))) /\
 (∀(c:IntKind) (a b:Int),A6b c a b=.int c (Dz c (a+b)))/\(∀(c:IntKind) (a b:Int),Bgm c a b=.int c (Dz c (a-b)))/\(∀(c:IntKind) (a b:Int),Bl2 c a b=.int c (Dz c (a*b))) /\
 (∀(b w:Bool),Cg (.bool b) w=Bf b w (Av0 w))/\(∀w,Cg (.tuple []) w=false):=
 ⟨dz,dzi,fun _ _ _ _ _=>rfl,fun _ a b=>by rw[Brn,Ayg],fun _ a b=>by rw[Bs4,Ayg,Azn];congr 1;exact eD.2 (by omega),
  fun _ a b=>by rw[Brw,Ayg],fun _ a b=>by rw[Br9,Ayg,Azn];congr 1;exact eD.2 (by omega),
  fun _ a b=>by rw[Bs9,A3j],fun _ a b=>by rw[Biw,A3j,Azn],
  fun _ a b=>by rw[Br1,Bl9],fun _ a b=>by unfold Bgm;rw[Bgg],fun _ a b=>rfl,fun _ _=>rfl,fun _=>rfl⟩
end
def Cs(h:Ab)(s:EV)(q:Nat)(e:TypeId)(sz len:Nat)(l:List EV):Prop:=
 (len=0/\l = []/\(s=.Ao\/∃b,s=.slice b 0 0 0 false))\/(0<len/\s=.slice q 0 len len true/\h.get q=some (.vec l e sz)/\l.length=len*sz)
theorem Cs.nil(h:Ab)(q:Nat)(e:TypeId)(sz:Nat):Cs h .Ao q e sz 0 []:=.inl ⟨rfl,rfl,.inl rfl⟩
theorem Cs.empty(h:Ab)(b q:Nat)(e:TypeId)(sz:Nat):Cs h (.slice b 0 0 0 false) q e sz 0 []:=.inl ⟨rfl,rfl,.inr ⟨_,rfl⟩⟩
theorem Cs.frame {s:EV}{len:Nat}{l:List EV}(r:Cs h s q e sz len l)(g:0<len->h'.get q=h.get q):Cs h' s q e sz len l:=by
 rcases r with r|⟨a,b,c,d⟩
 ·exact .inl r
 ·exact .inr ⟨a,b,by rw[g a];exact c,d⟩
theorem Cs.len {s:EV}{len:Nat}{l:List EV}(r:Cs h s q e sz len l):lenOf s=some len:=by
 rcases r with⟨rfl,_,rfl|⟨_,rfl⟩⟩|⟨_,rfl,_⟩<;>rfl
theorem Cs.F3 {s:EV}{len:Nat}{l:List EV}(r:Cs h s q e sz len l)(k:EV->R):Ev.F3 s k=k (.int .i64 (len:Int)):=by
 unfold Ev.F3;rw[r.len];rfl
theorem Cs.plain {s:EV}{len:Nat}{l:List EV}(r:Cs h s q e sz len l):s.plain=true/\s.cells = [s]:=by
 rcases r with⟨rfl,_,rfl|⟨_,rfl⟩⟩|⟨_,rfl,_⟩<;>exact⟨rfl,rfl⟩
theorem Cs.size {s:EV}{len:Nat}{l:List EV}(r:Cs h s q e sz len l):l.length=len*sz:=by
 rcases r with⟨rfl,rfl,_⟩|⟨_,_,_,d⟩
 ·rw[gA];rfl
 ·exact d
theorem Cs.ix {s:EV}{len:Nat}{l:List EV}(r:Cs h s q e sz len l)(hj:j<len)(kd:IntKind)(k:EV->R):Z8 sz s (.int kd (j:Int)) k=k (.ptr q (j*sz)):=by
 rcases r with⟨rfl,_,_⟩|⟨_,rfl,_,_⟩
 ·omega
 ·rw[Lv hj,bJ]
theorem Cs.block {s:EV}{len:Nat}{l:List EV}(r:Cs h s q e sz len l)(d:0<len):h.get q=some (.vec l e sz):=by
 rcases r with⟨rfl,_,_⟩|⟨_,_,c,_⟩
 ·omega
 ·exact c
theorem Cs.slice {s:EV}{len:Nat}{l:List EV}(r:Cs h s q e sz len l)(d:0<len):s=.slice q 0 len len true:=by
 rcases r with⟨rfl,_,_⟩|⟨_,c,_⟩
 ·omega
 ·exact c
theorem Aeo {s x:EV}{len:Nat}{l new:List EV}(r:Cs h s q e sz len l)(f:lenOf x=some n)(A:0<n)(d:n<=65536)(p:len<=1048576)(g:N9 h sz n x=some new)(hs:new.length=n*sz):
 ∃h',E0 e sz s x h=some (.slice h.next 0 (len+n) (len+n) true,h')/\Cs h' (.slice h.next 0 (len+n) (len+n) true) h.next e sz (len+n) (l++new)/\h'.next=h.next+1/\Av (fun i=>0<len/\i=q) h h':=by
 have e0:Nat.beq n 0=false:=by cases n with|zero=>omega|succ n=>rfl
 rcases r with⟨rfl,rfl,rfl|⟨b,rfl⟩⟩|⟨hp,rfl,u,hlen⟩
 ·refine⟨h.new (.vec new e sz),?_,.inr ⟨by omega,rfl,?_,by rw[dS,bJ];exact hs⟩,rfl,Av.new _ _⟩
  ·unfold E0
   simp only[f,Ia,e0,Bo,g,aS d,Ak,bJ]
  ·rw[Ad];rfl
 ·have e2:Nat.ble (Nat.add 0 n) 0=false:=by cases n with|zero=>omega|succ n=>show Nat.ble (0+(n+1)) 0=false;rw[bJ];rfl
  have e3:N9 h sz 0 (.slice b 0 0 0 false)=some []:=rfl;refine⟨h.new (.vec new e sz),?_,.inr ⟨by omega,rfl,?_,by rw[dS,bJ];exact hs⟩,rfl,Av.new _ _⟩
  ·unfold E0
   simp only[f,Ia,e0,Bo,g,e3,e2,aS d,aS p,Ak];rfl
  ·rw[Ad];rfl
 ·have m:N9 h sz len (.slice q 0 len len true)=some l:=by
   show Bf (Nat.beq len 0) (some []) (Ab4 h q 0 (Nat.mul len sz))=_;have:Nat.beq len 0=false:=by cases len with|zero=>omega|succ n=>rfl
   rw[this,Bo];unfold Ab4 Az3;rw[u];exact Ai hlen
  refine⟨(h.del q).new (.vec (l++new) e sz),?_,.inr ⟨by omega,rfl,?_,by rw[aH,hlen,hs,fZ]⟩,rfl,?_⟩
  ·unfold E0
   simp only[f,Ia,e0,Bo,g,m,u,aS d,aS p,Ak];rw[show Nat.beq 0 0=true from rfl,Ak,cO,Ak,Bc,hlen,show Nat.beq (len*sz) (Nat.mul len sz)=true from cO _,Ak,cO,Ak,cO,Ak,Az1];rfl
  ·rw[show h.next=(h.del q).next from rfl,Ad]
  ·exact(Av.del h (.inl ⟨hp,rfl⟩)).trans (Av.new _ _)
theorem Afr {z:List EV}(hp:v.plain=true)(f:z.length=sz)(d:v.cells.length=sz)(hs:sz<=65536):Cd z e sz 1 [(0,v)] h=some (.slice h.next 0 1 1 false,h.new (.cells v.cells e)):=by
 unfold Cd;rw[aS (show Nat.mul 1 sz<=65536 by show 1*sz<=65536;omega),Ak];have g:Afp (Mv sz) [(0,v)] (rep z 1)=some v.cells:=by
  show oB (Bi1 fun off size=>Bf v.plain (Bf (Nat.beq (Gk v.cells) size) (oB _ (O0 (rep z 1) off v.cells)) none) none) (Mv sz 0)=_;show Bf v.plain (Bf (Nat.beq (Gk v.cells) sz) (oB _ (O0 (rep z 1) (Nat.mul 0 sz) v.cells)) none) none=_;rw[hp,Ak,Bc,d,cO,Ak];have:rep z 1=z:=by show z++[]=z;rw[dK]
  rw[this,show Nat.mul 0 sz=0 from gA sz,Bm (by rw[f,d])];rfl
 rw[g];rfl
theorem Ac3 {b:Nat}{l:List EV}(hb:h.get b=some (.cells l e))(d:l.length=sz):N9 h sz 1 (.slice b 0 1 1 false)=some l:=by
 show Bf (Nat.beq 1 0) (some []) (Ab4 h b 0 (Nat.mul 1 sz))=_;rw[show Nat.beq 1 0=false from rfl,Bo];unfold Ab4 Az3;rw[hb];exact Ai (by rw[d];show sz=1*sz;omega)
theorem Qe {s:EV}{len:Nat}{l z:List EV}{k:EV->Ab->R}(r:Cs h s q e sz len l)(hb:HB h)(hp:v.plain=true)(g:z.length=sz)(d:v.cells.length=sz)(hs:sz<=65536)(f:len<=1048575)
 (m:∀h',Cs h' (.slice (h.next+1) 0 (len+1) (len+1) true) (h.next+1) e sz (len+1) (l++v.cells)->h'.next=h.next+2->Av (fun i=>0<len/\i=q) h h'->Ok (k (.slice (h.next+1) 0 (len+1) (len+1) true) h') Q) :
 Ok (An (Cd z e sz 1 [(0,v)] h) fun w h=>An (E0 e sz s w h) k) Q:=by
 rw[Afr hp g d hs,As];have p:Cs (h.new (.cells v.cells e)) s q e sz len l:=r.frame fun f=>Az _ (hb q _ (r.block f))
 obtain⟨h',e1,u,A,c2⟩:=Aeo (n:=1) (x:=.slice h.next 0 1 1 false) p rfl (by omega) (by omega) (by omega) (Ac3 (Ad _ _) d) (by rw[d];omega);rw[e1,As];exact m h' u A ((Av.new h _).trans c2)
end Go.Ev
