import Derived.Test.YtokpnommcenoaaaGreatTab
import Derived.Test.YtokpnommcenoaaaGreatEvSix
set_option linter.all false
namespace Go.Ev
variable {v:EV}{h h' h0:Ab}{P Q:EV->Ab->Prop}{i j n q sz:Nat}{kk:Ab->R}{ps:List (Nat × EV)}{e:TypeId}{kh:EV->Ab->R}{ke:EV->Ab->DX->R}
section
def Ok(x:R)(Q:EV->Ab->Prop):Prop:=∃v h,x=some (v,h)/\Q v h
theorem Ok.ret(q:Q v h):Ok (some (v,h)) Q:=⟨v,h,rfl,q⟩
theorem Ok.mono {x:R}(a:Ok x P)(b:∀v h,P v h->Q v h):Ok x Q:=by
 obtain⟨v,h,e,p⟩:=a;exact⟨v,h,e,b v h p⟩
theorem Ok.Ap {x:R}{k:EV->Ab->R}(a:Ok x P)(b:∀v h,P v h->Ok (k v h) Q):Ok (Ap x k) Q:=by
 obtain⟨v,h,e,p⟩:=a;rw[e];exact b v h p
theorem Ok.eq {x y:R}(e:x=y)(a:Ok y Q):Ok x Q:=by rw[e];exact a
def HB(h:Ab):Prop:=∀q o,h.get q=some o->q<h.next
theorem HB.new(a:HB h)(o:Dz):HB (h.new o):=fun q x e=>by
 rw[Ab.K6]at e;split at e
 ·rename_i d;rw[Ab.Cv];omega
 ·exact Nat.lt_succ_of_lt (a q x e)
theorem HB.put(a:HB h)(d:i<h.next)(o:Dz):HB (h.put i o):=fun q x e=>by
 rw[Ab.get_put]at e;split at e
 ·rename_i f;subst f;exact d
 ·exact a q x e
theorem HB.del(a:HB h)(i:Nat):HB (h.del i):=fun q x e=>by
 rw[Ab.Aab]at e;split at e
 ·cases e
 ·exact a q x e
structure Ar(S:Nat->Prop)(h h':Ab):Prop where
 get:∀i,i<h.next->¬S i->h'.get i=h.get i
 next:h.next<=h'.next
 mw:∀w,w<=h.mw->w<=h.next->(∀i,S i->w<=i)->w<=h'.mw
 hb:HB h->HB h'
abbrev Ext:Ab->Ab->Prop:=Ar fun _=>False
variable {S T:Nat->Prop}{h1 h2 h3:Ab}
theorem Ar.refl(h:Ab):Ar S h h:=⟨fun _ _ _=>rfl,aC _,fun _ a _ _=>a,id⟩
theorem Ar.trans(a:Ar S h1 h2)(b:Ar S h2 h3):Ar S h1 h3:=
 ⟨fun i d hs=>by rw[b.get i (aL d a.next) hs,a.get i d hs],bN a.next b.next,
  fun w w1 w2 w3=>b.mw w (a.mw w w1 w2 w3) (bN w2 a.next) w3,fun x=>b.hb (a.hb x)⟩
theorem Ar.mono(a:Ar S h h')(st:∀i,S i->T i):Ar T h h':=⟨fun i d hs=>a.get i d fun x=>hs (st i x),a.next,fun w w1 w2 w3=>a.mw w w1 w2 fun i d=>w3 i (st i d),a.hb⟩
theorem Ar.then(a:Ar S h1 h2)(b:Ar T h2 h3)(st:∀i,T i->i<h1.next->S i):Ar S h1 h3:=by
 refine⟨fun i d hs=>by rw[b.get i (aL d a.next) fun x=>hs (st i x d),a.get i d hs],bN a.next b.next,fun w w1 w2 w3=>?_,fun x=>b.hb (a.hb x)⟩;refine b.mw w (a.mw w w1 w2 w3) (bN w2 a.next) fun i d=>?_
 by_cases f:i<h1.next
 ·exact w3 i (st i d f)
 ·omega
theorem Ext.to(a:Ext h h'):Ar S h h':=a.mono fun _ x=>x.elim
theorem Ar.new(h:Ab)(o:Dz):Ar S h (h.new o):=
 ⟨fun i d _=>Ay o d,by rw[Ab.Cv];omega,fun w w1 _ _=>by rw[Ab.Boh];exact w1,fun x=>x.new o⟩
theorem Ar.put(h:Ab)(d:S i\/h.next<=i)(f:HB h->i<h.next)(o:Dz):Ar S h (h.put i o):=by
 refine⟨fun j hj hs=>Af o fun e=>?_,by rw[Ab.Qf];exact aC _,fun w w1 w2 w3=>?_,fun x=>x.put (f x) o⟩
 ·subst e;rcases d with d|d
  ·exact hs d
  ·omega
 ·rw[Ab.Aog]
  rcases d with d|d
  ·have:=w3 i d;omega
  ·omega
theorem Ar.del(h:Ab)(d:S i\/h.next<=i):Ar S h (h.del i):=by
 refine⟨fun j hj hs=>A8i fun e=>?_,by rw[Ab.Anp];exact aC _,fun w w1 w2 w3=>?_,fun x=>x.del i⟩
 ·subst e;rcases d with d|d
  ·exact hs d
  ·omega
 ·rw[Ab.Azi]
  rcases d with d|d
  ·have:=w3 i d;omega
  ·omega
theorem Ar.Ak(x:Ar S h0 h)(d:S i\/h0.next<=i)(f:i<h.next)(o:Dz):Ar S h0 (h.put i o):=
 x.then (T:=fun j=>j=i) (Ar.put (S:=fun j=>j=i) h (.inl rfl) (fun _=>f) o) fun j hj g=>by
  have e:j=i:=hj;subst e;rcases d with d|d
  ·exact d
  ·omega
theorem Ar.Di(x:Ar S h0 h)(o:Dz):Ar S h0 (h.new o):=x.trans (Ar.new _ _)
theorem Ar.at(c:Ar S h h')(hb:HB h){o:Dz}(g:h.get i=some o)(d:¬S i):h'.get i=some o:=by rw[c.get i (hb i o g) d];exact g
theorem Ext.at(c:Ext h h')(hb:HB h){o:Dz}(g:h.get i=some o):h'.get i=some o:=Ar.at c hb g id
theorem Be{o o':Dz}(a:h.get i=some o)(b:h.get j=some o')(n:o≠o'):i≠j:=fun e=>n (by rw[e,b]at a;cases a;rfl)
noncomputable def Ab.lift(h:Ab):Ab:=⟨h.t,h.next,h.next⟩
structure Aot(h h':Ab):Prop where
 get:∀i,h'.get i=h.get i
 next:h'.next=h.next
theorem Afk(h:Ab)(i:Nat):h.get i=h.t.get i:=by cases h;rfl
theorem By(h:Ab)(i:Nat):h.lift.get i=h.get i:=by rw[Afk,Afk];rfl
theorem Ai5(h:Ab):h.lift.next=h.next:=rfl
theorem Du(a:HB h):HB h.lift:=fun q o e=>a q o (by rw[<-By];exact e)
theorem Aot.lift(h:Ab):Aot h h.lift:=⟨By h,rfl⟩
theorem Aot.hb(a:Aot h h')(b:HB h):HB h':=fun q o e=>by rw[a.next];exact b q o (by rw[<-a.get];exact e)
section
variable {b:Nat}{s:DX}{call:Ab->R}{k:EV->Ab->DX->R}
theorem Ok.Ds(hb:Al7 b s=true)(d:loose b s.nw = [])(f:Ok (call h.lift) P)(he:∀v h1,P v h1->Ext h.lift h1)
 (g:∀v h1 h2,P v h1->Aot h1 h2->Ext h h2->Ok (k v h2 (s.big i)) Q):Ok (Ds i b s h call k) Q:=by
 obtain⟨v,h1,e,p⟩:=f;have x:=he v h1 p;have m:K0 b s h=h.lift:=by unfold K0;rw[d];rfl
 have hm:h.next<=h1.mw:=x.mw h.next (aC _) (aC _) fun _ y=>y.elim
 have u:Ev.Ds i b s h call k=k v ⟨h1.t,h1.next,h.mw⟩ (s.big i):=by
  show Bb (Al7 b s) (Ev.Ap (call (K0 b s h)) fun v h'=>Po i b s h h' fun s h=>k v h s) none=_;rw[hb,Al,m,e];show Po i b s h h1 (fun s h=>k v h s)=_;unfold Po;rw[aR hm,Al,d];rfl
 rw[u];refine g v h1 _ p ⟨fun i=>by rw[Afk,Afk],rfl⟩ ⟨fun i A B=>?_,x.next,fun w w1 _ _=>w1,fun y=>?_⟩
 ·rw[Afk];show h1.t.get i=_;rw[<-Afk,x.get i A B,By]
 ·exact Aot.hb (h:=h1) ⟨fun i=>by rw[Afk,Afk],rfl⟩ (x.hb (Du y))
theorem Ok.Yh(hb:Al7 b s=true)(d:loose b s.nw = [])(m:∀w,Abb b w s.Cy=true)(u:Ok (call h.lift) P)(he:∀v h1,P v h1->Ar S h.lift h1)
 (f:∀v h1 h2 s',P v h1->Aot h1 h2->Ar S h h2->(s'=s.big i\/∃w,s'=s.Ai3 i w/\w=h1.mw)->Ok (k v h2 s') Q):Ok (Ev.Ds i b s h call k) Q:=by
 obtain⟨v,h1,e,p⟩:=u;have x:=he v h1 p;have A:K0 b s h=h.lift:=by unfold K0;rw[d];rfl
 have B:Ev.Ds i b s h call k=Po i b s h h1 fun s h=>k v h s:=by
  show Bb (Al7 b s) (Ev.Ap (call (K0 b s h)) fun v h'=>Po i b s h h' fun s h=>k v h s) none=_;rw[hb,Al,A,e];rfl
 rw[B];unfold Po;rw[d];have sm:∀w,Aot h1 ⟨h1.t,h1.next,w⟩:=fun w=>⟨fun i=>by rw[Afk,Afk],rfl⟩
 have g:∀w i,i<h.next->¬S i->(⟨h1.t,h1.next,w⟩:Ab).get i=h.get i:=fun w i C D=>by
  rw[(sm w).get,x.get i C D,By]
 cases hle:Nat.ble h.next h1.mw with
 | true=>
  rw[Al];exact f v h1 _ _ p (sm _) ⟨g _,x.next,fun w w1 _ _=>w1,fun y=>(sm _).hb (x.hb (Du y))⟩ (.inl rfl)
 | false=>
  rw[Bl,m,Al];refine f v h1 _ _ p (sm _) ⟨g _,x.next,fun w w1 w2 w3=>?_,fun y=>(sm _).hb (x.hb (Du y))⟩ (.inr ⟨_,rfl,rfl⟩);have:=x.mw w w2 w2 w3;show w<=Bb (Nat.ble h.mw h1.mw) h.mw h1.mw;rw[Bo];split<;>assumption
theorem Ah {b base o:Nat}{s:DX}{k:DX->R}(d:q<base)(f:Bb (F2 b q s.st) (Z2 b q s.lou) false=true):Hb i b base (.ptr q o) s k=k (s.ld i q):=by
 show Bb (A4k b base q s) _ none=_;unfold A4k;rw[aR (show Nat.succ q<=base from d),Al,f,Al]
theorem Kh {b o:Nat}{s:DX}{k:DX->R}(d:Bch b q s=true):Bdc i b (.ptr q o) s k=k (s.sto i q):=by
 show Bb (Bch b q s) _ none=_;rw[d,Al]
end
section
variable {o c s len:Nat}{l l':List EV}{t:TypeId}{k:EV->R}
noncomputable def rowOf:Dz->Option (List EV)
 | .cells l _=>some l
 | .vec l _ _=>some l
 | _=>none
theorem Aj {x:Dz}(f:h.get i=some x)(d:rowOf x=some l)(g:l[o]? = some v):Dr (.ptr i o) h k=k v:=by
 show oB _ (Aon (h.get i) o 1)=_;rw[f];have m:Mh l o 1=some [v]:=by
  obtain⟨h1,h2⟩:=bA.1 g;rw[Fc (by omega),cZ h1,h2];rfl
 cases x<;>first|(cases d;done)|(cases d;show oB _ (Mh l o 1)=_;rw[m];rfl)
theorem Mg {off d rm:Nat}{op:Bool}{kd:IntKind}(hj:j<d):X8 sz (.slice q off d rm op) (.int kd (j:Int)) k=k (.ptr q (off+j*sz)):=Bl6 hj k kd
theorem Dj {x:Dz}(f:h.get i=some x)(d:rowOf x=some l)(g:Mh l o n=some l'):Oc n (.ptr i o) h k=k (.agg l'):=by
 show oB _ (Aon (h.get i) o n)=_;rw[f];cases x<;>first|(cases d;done)|(cases d;show oB _ (Mh l o n)=_;rw[g];rfl)
theorem Akl(d:h.get i=some (.cells l t))(f:v.plain=true)(g:F9 v.cells=n)(m:Mf l o v.cells=some l'):stE n (.ptr i o) v h kk=kk (h.put i (.cells l' t)):=by
 show Bb v.plain (Bb (Nat.beq (F9 v.cells) n) (Agk h i (fun l=>Mf l o v.cells) kk) none) none=_;rw[f,Al,g,cI,Al,A0p d,m];rfl
theorem Bmw{z:Nat}(d:h.get i=some (.vec l t z))(f:v.plain=true)(g:F9 v.cells=n)(m:Mf l o v.cells=some l'):stE n (.ptr i o) v h kk=kk (h.put i (.vec l' t z)):=by
 show Bb v.plain (Bb (Nat.beq (F9 v.cells) n) (Agk h i (fun l=>Mf l o v.cells) kk) none) none=_;rw[f,Al,g,cI,Al];unfold Agk;rw[d];simp only;rw[m];rfl
theorem Ok.st(l':List EV)(d:h.get i=some (.cells l t))(f:v.plain=true)(g:F9 v.cells=n)(m:Mf l o v.cells=some l')(p:Ok (kk (h.put i (.cells l' t))) Q):Ok (stE n (.ptr i o) v h kk) Q:=by
 rw[Akl d f g m];exact p
theorem Ok.Zl(f:h.get i=some (.cells l t))(g:v.plain=true)(d:v.cells = [v])(m:o<l.length)(p:Ok (kk (h.put i (.cells (l.set o v) t))) Q):Ok (stE 1 (.ptr i o) v h kk) Q:=by
 rw[Akl f g (by rw[d];rfl) (by rw[d];exact A02 v l o m)];exact p
theorem Blv(d:v.plain=true):Py t v h kh=kh (.ptr h.next 0) (h.new (.cells v.cells t)):=by unfold Py;rw[d,Al]
theorem Azk {a b:EV}{x:Bool}:Apd (.bool x) a b k=Bb x (k a) (k b):=rfl
theorem Auq {kk:Nat->DX->R}:Ts h kk=kk h.next ⟨0,[],[],[],[]⟩:=rfl
theorem Au:Ap (some (v,h')) kh=kh v h':=rfl
theorem Z6 {off d:Nat}{kd:IntKind}(hj:j<d):Au9 d sz (.ptr q off) (.int kd (j:Int)) k=k (.ptr q (off+j*sz)):=by
 show Bb (Nat.ble (Nat.succ j) d) _ none=_;rw[aR hj,Al];rfl
theorem A06 {kd d:IntKind}{x:Int}:Sj kd (.int d x) k=k (.int kd (Cx kd x)):=rfl
theorem Bi4 {kd:IntKind}{x:Int}:A9d (.int kd x) k=k (.int kd (Cx kd (0-x))):=rfl
theorem Arv(d:l[o]? = some v):Aii o false 0 (.agg l) k=k v:=by
 show oB k (Ays l o)=_;rw[At0,d];rfl
theorem Az {place:Nat->Option (Nat × Nat)}{z:List EV}(d:Aaq place ps z=some l):Bu place z ps k=k (.agg l):=by
 unfold Bu;rw[d];rfl
theorem Am {l:List EV}(d:l.length=n):Mh l 0 n=some l:=by
 subst d;rw[Fc (by omega),dA,cM]
theorem Cn {n:Int}(h1 : -9223372036854775808<=n)(h2:n<=9223372036854775807):Cx .i64 n=n:=A16 h1 (by omega)
end
theorem Bh6 {b:Int}{T:Ih}{t:Nat}{a:Int}{k:EV->R}(hb:0<b)(h1:0<=a)(h2:a<9223372036854775808):Af0 (bin T .quo t) (.int .i64 a) (.int .i64 b) k=k (.int .i64 (a/b)):=by
 obtain⟨n,rfl⟩:=bD (Int.le_of_lt hb);show oB k (Bb (eqB (.ofNat n) 0) none (some (.int .i64 (Cx .i64 (a.tdiv (.ofNat n))))))=_;have:eqB (.ofNat n) 0=false:=by
  show Nat.beq n 0=false;cases n with
  | zero=>exact absurd hb (by decide)
  | succ n=>rfl
 rw[this,Bl];have e:a.tdiv (.ofNat n)=a/n:=Int.tdiv_eq_ediv_of_nonneg h1;have h3:a/(n:Int)<=a:=Int.ediv_le_self _ h1;have h4:0<=a/(n:Int):=Int.ediv_nonneg h1 (by omega);rw[e,A16 (by omega) (by omega)];rfl
section
variable {v' w w' a a' b b' x':EV}{x y r r':R}{k:EV->R}{kd:DX->R}{kb:Nat->DX->R}
@[congr] theorem Ok.c {Q:EV->Ab->Prop}(e:r=r'):Ok r Q=Ok r' Q:=by rw[e]
@[congr] theorem Bb.c {α:Type}{p q:Bool}{x y:α}(e:p=q):Bb p x y=Bb q x y:=by rw[e]
@[congr] theorem oB.c {α β:Type}{k:α->Option β}{p q:Option α}(e:p=q):oB k p=oB k q:=by rw[e]
@[congr] theorem Ap.c(e:r=r'):Ap r kh=Ap r' kh:=by rw[e]
@[congr] theorem Dr.c(e:v=v'):Dr v h k=Dr v' h k:=by rw[e]
@[congr] theorem Oc.c {n:Nat}(e:v=v'):Oc n v h k=Oc n v' h k:=by rw[e]
@[congr] theorem stE.c {n:Nat}(e:a=a')(e':v=v'):stE n a v h kk=stE n a' v' h kk:=by rw[e,e']
@[congr] theorem Au8.c {o o':Dz}(e:o=o'):Au8 o h kh=Au8 o' h kh:=by rw[e]
@[congr] theorem Py.c {t:Nat}(e:v=v'):Py t v h kh=Py t v' h kh:=by rw[e]
@[congr] theorem Kv.c {g:IG}{f:EV->EV->Option EV}(e:v=v')(e':w=w'):Kv g f v w k=Kv g f v' w' k:=by rw[e,e']
@[congr] theorem Af0.c {f:EV->EV->Option EV}(e:v=v')(e':w=w'):Af0 f v w k=Af0 f v' w' k:=by rw[e,e']
@[congr] theorem Apd.c(e:v=v'):Apd v a b k=Apd v' a b k:=by rw[e]
@[congr] theorem Afz.c(e:v=v'):Afz v k=Afz v' k:=by rw[e]
@[congr] theorem A9d.c(e:v=v'):A9d v k=A9d v' k:=by rw[e]
@[congr] theorem Ap7.c(e:v=v'):Ap7 v k=Ap7 v' k:=by rw[e]
@[congr] theorem Ady.c {n:Nat}(e:v=v'):Ady n v k=Ady n v' k:=by rw[e]
@[congr] theorem Au9.c {n m:Nat}(e:v=v')(e':w=w'):Au9 n m v w k=Au9 n m v' w' k:=by rw[e,e']
@[congr] theorem X8.c {n:Nat}(e:v=v')(e':w=w'):X8 n v w k=X8 n v' w' k:=by rw[e,e']
@[congr] theorem Aw0.c {n m q:Nat}{g:Bool}(e:v=v')(e':w=w'):Aw0 n m g q v w k=Aw0 n m g q v' w' k:=by rw[e,e']
@[congr] theorem Aii.c {n m:Nat}{g:Bool}(e:v=v'):Aii n g m v k=Aii n g m v' k:=by rw[e]
@[congr] theorem Sj.c {c:IntKind}(e:v=v'):Sj c v k=Sj c v' k:=by rw[e]
@[congr] theorem An9.c {n:Nat}(e:v=v'):An9 n v k=An9 n v' k:=by rw[e]
@[congr] theorem Hz.c(e:v=v'):Hz v k=Hz v' k:=by rw[e]
@[congr] theorem Azf.c {n:Nat}(e:v=v'):Azf n v k=Azf n v' k:=by rw[e]
@[congr] theorem Bu.c {place:Nat->Option (Nat × Nat)}{z:List EV}{ps d:List (Nat × EV)}(e:ps=d):Bu place z ps k=Bu place z d k:=by rw[e]
@[congr] theorem Aik.c {n:Nat}{m d p f u g:Option EV}(e:v=v')(e1:m=d)(e2:p=f)(e3:u=g):Aik n v m p u k=Aik n v' d f g k:=by rw[e,e1,e2,e3]
@[congr] theorem Qi.c {n m:Nat}{p d u f A g:Option EV}(e:v=v')(e1:p=d)(e2:u=f)(e3:A=g):Qi n m v p u A k=Qi n m v' d f g k:=by rw[e,e1,e2,e3]
@[congr] theorem ifE.c(e:v=v'):ifE v x y=ifE v' x y:=by rw[e]
@[congr] theorem Ts.c(e:h=h'):Ts h kb=Ts h' kb:=by rw[e]
@[congr] theorem Hb.c {i b base:Nat}{s:DX}(e:v=v'):Hb i b base v s kd=Hb i b base v' s kd:=by rw[e]
@[congr] theorem Bdc.c {i b:Nat}{s:DX}(e:v=v'):Bdc i b v s kd=Bdc i b v' s kd:=by rw[e]
@[congr] theorem A97.c {i:Nat}{s s':DX}(e:s=s'):A97 i h s kd=A97 i h s' kd:=by rw[e]
@[congr] theorem Ds.c {i b:Nat}{s s':DX}{call:Ab->R}(e:s=s'):Ds i b s h call ke=Ds i b s' h call ke:=by rw[e]
@[congr] theorem Q2.c {c:Ai}{T:Ih}{g n i:Nat}{tm:Ax}{ds:List Nat}{d:Ab->List Nat->R}{f:Nat->Ab->List Nat->R}{m:Ab->List Nat->R}(e:v=v'):Q2 c T g n i v tm h ds d f m=Q2 c T g n i v' tm h ds d f m:=by rw[e]
@[congr] theorem Ak2.c {c:Ai}{T:Ih}{g n i l0:Nat}{tm:Ax}{ds:List Nat}{d:Ab->List Nat->R}{f:Nat->Ab->List Nat->R}{m:Ab->List Nat->R}(e:v=v'):Ak2 c T g n i l0 v tm h ds d f m=Ak2 c T g n i l0 v' tm h ds d f m:=by rw[e]
@[congr] theorem Ff.c {l:Nat}(e:h=h'):Ff l h kk=Ff l h' kk:=by rw[e]
end
theorem Cy{x:Dz}{l:List EV}(f:h.get i=some x)(d:rowOf x=some l):∀(o:Nat) (k:EV->R),Dr (.ptr i o) h k=oB k l[o]?:=by
 intro o k;cases g:l[o]? with
 | some v=>exact Aj f d g
 | none=>
  show oB _ (Aon (h.get i) o 1)=_;rw[f];have m:l.length<=o:=List.getElem?_eq_none_iff.1 g;have p:Mh l o 1=none:=by
   rw[Ag1,Ry,List.drop_eq_nil_of_le m];rfl
  cases x<;>first|(cases d;done)|(cases d;show oB _ (Mh l o 1)=_;rw[p];rfl)
theorem C8{x:Dz}{l:List EV}(f:h.get i=some x)(d:rowOf x=some l):∀(n o:Nat) (k:EV->R),Oc n (.ptr i o) h k=oB (fun l=>k (.agg l)) (Mh l o n):=by
 intro n o k;show oB _ (Aon (h.get i) o n)=_;rw[f];cases x<;>first|(cases d;done)|(cases d;rfl)
theorem Aa:Zs/\Zi /\
 (∀(i o:Nat) (k:EV->R),Ap7 (.ptr i o) k=k (.ptr i o))/\(∀(c i o:Nat) (k:EV->R),Ady c (.ptr i o) k=k (.ptr i (o+c))) /\
 (∀(o:Dz) (h:Ab) (k:EV->Ab->R),Au8 o h k=k (.ptr h.next 0) (h.new o)) /\
 (∀(t:Nat) (c:IntKind) (n:Int) (h:Ab) (k:EV->Ab->R),Py t (.int c n) h k=k (.ptr h.next 0) (h.new (.cells [.int c n] t))) /\
 (∀(t:Nat) (l:List EV) (h:Ab) (k:EV->Ab->R),Py t (.agg l) h k=k (.ptr h.next 0) (h.new (.cells l t))) /\
 (∀(t i o:Nat) (h:Ab) (k:EV->Ab->R),Py t (.ptr i o) h k=k (.ptr h.next 0) (h.new (.cells [.ptr i o] t))) /\
 (∀(t i o n m:Nat) (p:Bool) (h:Ab) (k:EV->Ab->R),Py t (.slice i o n m p) h k=k (.ptr h.next 0) (h.new (.cells [.slice i o n m p] t))) /\
 (∀(t:Nat) (h:Ab) (k:EV->Ab->R),Py t .Ao h k=k (.ptr h.next 0) (h.new (.cells [.Ao] t))) /\
 (∀(x:Bool) (a b:EV) (k:EV->R),Apd (.bool x) a b k=Bb x (k a) (k b)) /\
 (∀(x:Bool) (k:EV->R),Afz (.bool x) k=Bb x (k (.bool false)) (k (.bool true))) /\
 (∀(x:Bool) (a b:R),ifE (.bool x) a b=Bb x a b) /\
 (∀(k:EV->R),Hz .Ao k=k (.int .i64 0))/\(∀(q off d rm:Nat) (op:Bool) (k:EV->R),Hz (.slice q off d rm op) k=k (.int .i64 (d:Int))) /\
 (∀(o:Nat) (l:List EV) (k:EV->R),An9 o (.tuple l) k=oB k l[o]?) /\
 (∀(h:Ab) (k:Nat->DX->R),Ts h k=k h.next ⟨0,[],[],[],[]⟩)/\(∀(i:Nat) (h:Ab) (s:DX) (k:DX->R),A97 i h s k=k (s.new i h.next)) /\
 (∀(v:EV) (h:Ab) (k:EV->Ab->R),Ap (some (v,h)) k=k v h) /\
 (∀(o:Nat) (l:List EV) (k:EV->R),Aii o false 0 (.agg l) k=oB k l[o]?) /\
 (∀(c f:IntKind) (n:Int) (k:EV->R),Sj c (.int f n) k=k (.int c (Cx c n))) /\
 (∀(x y:R),Bb true x y=x)/\(∀(x y:R),Bb false x y=y)/\(Bb true true false=true)/\(Bb false true false=false)/\(Bb true false true=false)/\(Bb false false true=true)/\Apy true=false/\Apy false=true /\
 (∀(k:EV->R) (v:EV),oB k (some v)=k v)/\(∀(h:Ab) (v:EV),I9 TT [.v v] h=some (v,h))/\(∀(h:Ab) (v w:EV),I9 TT [.v v,.v w] h=some (.tuple [v,w],h))/\(∀(h:Ab) (v w x:EV),I9 TT [.v v,.v w,.v x] h=some (.tuple [v,w,x],h)) /\
 (∀(h:Ab) (k:Ab->R),Fp [] h k=k h)/\(∀(p:EV) (r:List EV),(p::r)[0]? = some p)/\(∀(p:EV) (r:List EV) (n:Nat),(p::r)[n+1]? = r[n]?)/\(∀n:Nat,0+n=n)/\(∀(k:List EV->R) (l:List EV),oB k (some l)=k l):=
 ⟨dz,dzi,fun _ _ _=>rfl,fun _ _ _ _=>rfl,fun _ _ _=>rfl,fun _ _ _ _ _=>rfl,fun _ _ _ _=>rfl,fun _ _ _ _ _=>rfl,fun _ _ _ _ _ _ _ _=>rfl,fun _ _ _=>rfl,fun _ _ _ _=>rfl,fun _ _=>rfl,fun _ _ _=>rfl,
  fun _=>rfl,fun _ _ _ _ _ _=>rfl,fun o l k=>by show oB k (Ays l o)=_;rw[At0],fun _ _=>rfl,fun _ _ _ _=>rfl,fun _ _ _=>rfl,fun o l k=>by show oB k (Ays l o)=_;rw[At0],fun _ _ _ _=>rfl,
  fun _ _=>rfl,fun _ _=>rfl,rfl,rfl,rfl,rfl,rfl,rfl,fun _ _=>rfl,fun _ _=>rfl,fun _ _ _=>rfl,fun _ _ _ _=>rfl,fun _ _=>rfl,fun _ _=>rfl,fun _ _ _=>rfl,bC,fun _ _=>rfl⟩
theorem Aw:
 (∀(s:DX) (i q:Nat),s.ld i q=⟨s.bg,s.nw,(Nat.shiftLeft 1 i,q)::s.Cy,s.lou,s.st⟩)/\(∀(s:DX) (i q:Nat),s.new i q=⟨s.bg,(Nat.shiftLeft 1 i,q)::s.nw,s.Cy,s.lou,s.st⟩) /\
 (∀(s:DX) (i:Nat),s.big i=⟨Nat.lor s.bg (Nat.shiftLeft 1 i),s.nw,s.Cy,s.lou,s.st⟩)/\(∀(b q:Nat),F2 b q []=true)/\(∀(b q:Nat),Z2 b q []=true):=
 ⟨fun _ _ _=>rfl,fun _ _ _=>rfl,fun _ _=>rfl,fun _ _=>rfl,fun _ _=>rfl⟩
theorem Ad:Zs/\Zi /\
 (∀(g:IG) (f:EV->EV->Option EV) (x y:Int) (k:EV->R),Kv g f (.int .i64 x) (.int .i64 y) k=k (g .i64 x y)) /\
 (∀(c:IntKind) (a b:Int),K7 c a b=.bool (decide (a<b)))/\(∀(c:IntKind) (a b:Int),Bad c a b=.bool (decide (a<=b))) /\
 (∀(c:IntKind) (a b:Int),A7s c a b=.bool (decide (b<a)))/\(∀(c:IntKind) (a b:Int),A83 c a b=.bool (decide (b<=a))) /\
 (∀(c:IntKind) (a b:Int),Ala c a b=.bool (decide (a=b)))/\(∀(c:IntKind) (a b:Int),Ake c a b=.bool (decide (¬a=b))) /\
 (∀(c:IntKind) (a b:Int),Az0 c a b=.int c (Cx c (a+b)))/\(∀(c:IntKind) (a b:Int),A85 c a b=.int c (Cx c (a-b)))/\(∀(c:IntKind) (a b:Int),Bfc c a b=.int c (Cx c (a*b))) /\
 (∀(b w:Bool),Fj (.bool b) w=Bb b w (Apy w))/\(∀w,Fj (.tuple []) w=false):=
 ⟨dz,dzi,fun _ _ _ _ _=>rfl,fun _ a b=>by rw[Bk9,Aug],fun _ a b=>by rw[Bl5,Aug,Asq];congr 1;exact eK.2 (by omega),
  fun _ a b=>by rw[Bly,Aug],fun _ a b=>by rw[Bml,Aug,Asq];congr 1;exact eK.2 (by omega),
  fun _ a b=>by rw[Bmu,Axq],fun _ a b=>by rw[Bcn,Axq,Asq],
  fun _ a b=>by rw[Bl4,Be5],fun _ a b=>by unfold A85;rw[Bal],fun _ a b=>rfl,fun _ _=>rfl,fun _=>rfl⟩
end
def Ci(h:Ab)(s:EV)(q:Nat)(e:TypeId)(sz len:Nat)(l:List EV):Prop:=
 (len=0/\l = []/\(s=.Ao\/∃b,s=.slice b 0 0 0 false))\/(0<len/\s=.slice q 0 len len true/\h.get q=some (.vec l e sz)/\l.length=len*sz)
theorem Ci.nil(h:Ab)(q:Nat)(e:TypeId)(sz:Nat):Ci h .Ao q e sz 0 []:=.inl ⟨rfl,rfl,.inl rfl⟩
theorem Ci.empty(h:Ab)(b q:Nat)(e:TypeId)(sz:Nat):Ci h (.slice b 0 0 0 false) q e sz 0 []:=.inl ⟨rfl,rfl,.inr ⟨_,rfl⟩⟩
theorem Ci.frame {s:EV}{len:Nat}{l:List EV}(r:Ci h s q e sz len l)(g:0<len->h'.get q=h.get q):Ci h' s q e sz len l:=by
 rcases r with r|⟨a,b,c,d⟩
 ·exact .inl r
 ·exact .inr ⟨a,b,by rw[g a];exact c,d⟩
theorem Ci.len {s:EV}{len:Nat}{l:List EV}(r:Ci h s q e sz len l):lenOf s=some len:=by
 rcases r with⟨rfl,_,rfl|⟨_,rfl⟩⟩|⟨_,rfl,_⟩<;>rfl
theorem Ci.Hz {s:EV}{len:Nat}{l:List EV}(r:Ci h s q e sz len l)(k:EV->R):Ev.Hz s k=k (.int .i64 (len:Int)):=by
 unfold Ev.Hz;rw[r.len];rfl
theorem Ci.plain {s:EV}{len:Nat}{l:List EV}(r:Ci h s q e sz len l):s.plain=true/\s.cells = [s]:=by
 rcases r with⟨rfl,_,rfl|⟨_,rfl⟩⟩|⟨_,rfl,_⟩<;>exact⟨rfl,rfl⟩
theorem Ci.size {s:EV}{len:Nat}{l:List EV}(r:Ci h s q e sz len l):l.length=len*sz:=by
 rcases r with⟨rfl,rfl,_⟩|⟨_,_,_,d⟩
 ·rw[fG];rfl
 ·exact d
theorem Ci.ix {s:EV}{len:Nat}{l:List EV}(r:Ci h s q e sz len l)(hj:j<len)(kd:IntKind)(k:EV->R):X8 sz s (.int kd (j:Int)) k=k (.ptr q (j*sz)):=by
 rcases r with⟨rfl,_,_⟩|⟨_,rfl,_,_⟩
 ·omega
 ·rw[Mg hj,bC]
theorem Ci.block {s:EV}{len:Nat}{l:List EV}(r:Ci h s q e sz len l)(d:0<len):h.get q=some (.vec l e sz):=by
 rcases r with⟨rfl,_,_⟩|⟨_,_,c,_⟩
 ·omega
 ·exact c
theorem Ci.slice {s:EV}{len:Nat}{l:List EV}(r:Ci h s q e sz len l)(d:0<len):s=.slice q 0 len len true:=by
 rcases r with⟨rfl,_,_⟩|⟨_,c,_⟩
 ·omega
 ·exact c
theorem Ze {s x:EV}{len:Nat}{l new:List EV}(r:Ci h s q e sz len l)(f:lenOf x=some n)(B:0<n)(d:n<=65536)(p:len<=1048576)(g:O1 h sz n x=some new)(hs:new.length=n*sz):
 ∃h',Em e sz s x h=some (.slice h.next 0 (len+n) (len+n) true,h')/\Ci h' (.slice h.next 0 (len+n) (len+n) true) h.next e sz (len+n) (l++new)/\h'.next=h.next+1/\Ar (fun i=>0<len/\i=q) h h':=by
 have e0:Nat.beq n 0=false:=by cases n with|zero=>omega|succ n=>rfl
 rcases r with⟨rfl,rfl,rfl|⟨b,rfl⟩⟩|⟨A,rfl,u,hlen⟩
 ·refine⟨h.new (.vec new e sz),?_,.inr ⟨by omega,rfl,?_,by rw[dJ,bC];exact hs⟩,rfl,Ar.new _ _⟩
  ·unfold Em
   simp only[f,G8,e0,Bl,g,aR d,Al,bC]
  ·rw[Ac];rfl
 ·have e2:Nat.ble (Nat.add 0 n) 0=false:=by cases n with|zero=>omega|succ n=>show Nat.ble (0+(n+1)) 0=false;rw[bC];rfl
  have e3:O1 h sz 0 (.slice b 0 0 0 false)=some []:=rfl;refine⟨h.new (.vec new e sz),?_,.inr ⟨by omega,rfl,?_,by rw[dJ,bC];exact hs⟩,rfl,Ar.new _ _⟩
  ·unfold Em
   simp only[f,G8,e0,Bl,g,e3,e2,aR d,aR p,Al];rfl
  ·rw[Ac];rfl
 ·have m:O1 h sz len (.slice q 0 len len true)=some l:=by
   show Bb (Nat.beq len 0) (some []) (Xo h q 0 (Nat.mul len sz))=_;have:Nat.beq len 0=false:=by cases len with|zero=>omega|succ n=>rfl
   rw[this,Bl];unfold Xo As0;rw[u];exact Am hlen
  refine⟨(h.del q).new (.vec (l++new) e sz),?_,.inr ⟨by omega,rfl,?_,by rw[aF,hlen,hs,fD]⟩,rfl,?_⟩
  ·unfold Em
   simp only[f,G8,e0,Bl,g,m,u,aR d,aR p,Al];rw[show Nat.beq 0 0=true from rfl,Al,cI,Al,Bf,hlen,show Nat.beq (len*sz) (Nat.mul len sz)=true from cI _,Al,cI,Al,cI,Al,Aum];rfl
  ·rw[show h.next=(h.del q).next from rfl,Ac]
  ·exact(Ar.del h (.inl ⟨A,rfl⟩)).trans (Ar.new _ _)
theorem V8 {z:List EV}(f:v.plain=true)(g:z.length=sz)(d:v.cells.length=sz)(hs:sz<=65536):Cd z e sz 1 [(0,v)] h=some (.slice h.next 0 1 1 false,h.new (.cells v.cells e)):=by
 unfold Cd;rw[aR (show Nat.mul 1 sz<=65536 by show 1*sz<=65536;omega),Al];have m:Aaq (Nc sz) [(0,v)] (rep z 1)=some v.cells:=by
  show oB (Ba8 fun off size=>Bb v.plain (Bb (Nat.beq (F9 v.cells) size) (oB _ (Mf (rep z 1) off v.cells)) none) none) (Nc sz 0)=_;show Bb v.plain (Bb (Nat.beq (F9 v.cells) sz) (oB _ (Mf (rep z 1) (Nat.mul 0 sz) v.cells)) none) none=_;rw[f,Al,Bf,d,cI,Al];have:rep z 1=z:=by show z++[]=z;rw[cR]
  rw[this,show Nat.mul 0 sz=0 from fG sz,Bm (by rw[g,d])];rfl
 rw[m];rfl
theorem Xf {b:Nat}{l:List EV}(hb:h.get b=some (.cells l e))(d:l.length=sz):O1 h sz 1 (.slice b 0 1 1 false)=some l:=by
 show Bb (Nat.beq 1 0) (some []) (Xo h b 0 (Nat.mul 1 sz))=_;rw[show Nat.beq 1 0=false from rfl,Bl];unfold Xo As0;rw[hb];exact Am (by rw[d];show sz=1*sz;omega)
theorem N9 {s:EV}{len:Nat}{l z:List EV}{k:EV->Ab->R}(r:Ci h s q e sz len l)(hb:HB h)(g:v.plain=true)(m:z.length=sz)(d:v.cells.length=sz)(hs:sz<=65536)(f:len<=1048575)
 (p:∀h',Ci h' (.slice (h.next+1) 0 (len+1) (len+1) true) (h.next+1) e sz (len+1) (l++v.cells)->h'.next=h.next+2->Ar (fun i=>0<len/\i=q) h h'->Ok (k (.slice (h.next+1) 0 (len+1) (len+1) true) h') Q) :
 Ok (Ap (Cd z e sz 1 [(0,v)] h) fun w h=>Ap (Em e sz s w h) k) Q:=by
 rw[V8 g m d hs,Au];have u:Ci (h.new (.cells v.cells e)) s q e sz len l:=r.frame fun f=>Ay _ (hb q _ (r.block f))
 obtain⟨h',e1,A,B,c2⟩:=Ze (n:=1) (x:=.slice h.next 0 1 1 false) u rfl (by omega) (by omega) (by omega) (Xf (Ac _ _) d) (by rw[d];omega);rw[e1,Au];exact p h' A B ((Ar.new h _).trans c2)
end Go.Ev
