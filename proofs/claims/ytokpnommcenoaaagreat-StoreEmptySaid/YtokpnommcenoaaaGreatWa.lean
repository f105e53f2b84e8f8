import Derived.Test.YtokpnommcenoaaaGreatTab
import Derived.Test.YtokpnommcenoaaaGreatEvSix
set_option linter.unusedVariables false
set_option linter.unusedSimpArgs false
set_option linter.unusedSectionVars false
namespace Go.Ev
def Ok(x:R)(Q:EV->Ac->Prop):Prop:=∃ v h,x=some (v,h)/\Q v h
theorem Ok.ret {v:EV}{h:Ac}{Q:EV->Ac->Prop}(q:Q v h):Ok (some (v,h)) Q:=⟨v,h,rfl,q⟩
theorem Ok.mono {x:R}{P Q:EV->Ac->Prop}(a:Ok x P)(b:∀ v h,P v h->Q v h):Ok x Q:=by
 obtain⟨v,h,e,p⟩:=a;exact⟨v,h,e,b v h p⟩
theorem Ok.Bc {x:R}{k:EV->Ac->R}{P Q:EV->Ac->Prop}(a:Ok x P)(b:∀ v h,P v h->Ok (k v h) Q):Ok (Bc x k) Q:=by
 obtain⟨v,h,e,p⟩:=a
 rw[e];exact b v h p
def HB(h:Ac):Prop:=∀ q o,h.get q=some o->q<h.next
theorem HB.new {h:Ac}(a:HB h)(o:A9):HB (h.new o):=fun q x e=>by
 rw[Ac.D4]at e
 split at e
 ·rename_i hq;rw[Ac.B6];omega
 ·exact Nat.lt_succ_of_lt (a q x e)
theorem HB.put {h:Ac}(a:HB h){i:Nat}(hi:i<h.next)(o:A9):HB (h.put i o):=fun q x e=>by
 rw[Ac.get_put]at e
 split at e
 ·rename_i hq;subst hq;exact hi
 ·exact a q x e
theorem HB.del {h:Ac}(a:HB h)(i:Nat):HB (h.del i):=fun q x e=>by
 rw[Ac.Ja]at e
 split at e
 ·cases e
 ·exact a q x e
structure Ed(S:Nat->Prop)(h h':Ac):Prop where
 get:∀ i,i<h.next->¬ S i->h'.get i=h.get i
 next:h.next<=h'.next
 mw:∀ w,w<=h.mw->w<=h.next->(∀ i,S i->w<=i)->w<=h'.mw
 hb:HB h->HB h'
abbrev Ext:Ac->Ac->Prop:=Ed fun _=>False
variable {S T:Nat->Prop}{h h' h1 h2 h3:Ac}
theorem Ed.refl(h:Ac):Ed S h h:=⟨fun _ _ _=>rfl,Nat.le_refl _,fun _ a _ _=>a,id⟩
theorem Ed.trans(a:Ed S h1 h2)(b:Ed S h2 h3):Ed S h1 h3:=
 ⟨fun i hi hs=>by rw[b.get i (Nat.lt_of_lt_of_le hi a.next) hs,a.get i hi hs],Nat.le_trans a.next b.next,
  fun w w1 w2 w3=>b.mw w (a.mw w w1 w2 w3) (Nat.le_trans w2 a.next) w3,fun x=>b.hb (a.hb x)⟩
theorem Ed.mono(a:Ed S h h')(st:∀ i,S i->T i):Ed T h h':=⟨fun i hi hs=>a.get i hi fun x=>hs (st i x),a.next,fun w w1 w2 w3=>a.mw w w1 w2 fun i hi=>w3 i (st i hi),a.hb⟩
theorem Ed.then(a:Ed S h1 h2)(b:Ed T h2 h3)(st:∀ i,T i->i<h1.next->S i):Ed S h1 h3:=by
 refine⟨fun i hi hs=>by rw[b.get i (Nat.lt_of_lt_of_le hi a.next) fun x=>hs (st i x hi),a.get i hi hs],Nat.le_trans a.next b.next,fun w w1 w2 w3=>?_,fun x=>b.hb (a.hb x)⟩
 refine b.mw w (a.mw w w1 w2 w3) (Nat.le_trans w2 a.next) fun i hi=>?_
 by_cases hl:i<h1.next
 ·exact w3 i (st i hi hl)
 ·omega
theorem Ext.to(a:Ext h h'):Ed S h h':=a.mono fun _ x=>x.elim
theorem Ed.new(h:Ac)(o:A9):Ed S h (h.new o):=
 ⟨fun i hi _=>Hm o hi,by rw[Ac.B6];omega,fun w w1 _ _=>by rw[Ac.Att];exact w1,fun x=>x.new o⟩
theorem Ed.put(h:Ac){i:Nat}(hi:S i\/h.next<=i)(hn:HB h->i<h.next)(o:A9):Ed S h (h.put i o):=by
 refine⟨fun j hj hs=>Di o fun e=>?_,by rw[Ac.Aco];exact Nat.le_refl _,fun w w1 w2 w3=>?_,fun x=>x.put (hn x) o⟩
 ·subst e;rcases hi with hi|hi
  ·exact hs hi
  ·omega
 ·rw[Ac.P4]
  rcases hi with hi|hi
  ·have:=w3 i hi;omega
  ·omega
theorem Ed.del(h:Ac){i:Nat}(hi:S i\/h.next<=i):Ed S h (h.del i):=by
 refine⟨fun j hj hs=>Ae0 fun e=>?_,by rw[Ac.P2];exact Nat.le_refl _,fun w w1 w2 w3=>?_,fun x=>x.del i⟩
 ·subst e;rcases hi with hi|hi
  ·exact hs hi
  ·omega
 ·rw[Ac.Xm]
  rcases hi with hi|hi
  ·have:=w3 i hi;omega
  ·omega
theorem Ed.Sc {h0:Ac}(x:Ed S h0 h){i:Nat}(hi:S i\/h0.next<=i)(hn:i<h.next)(o:A9):Ed S h0 (h.put i o):=
 x.then (T:=fun j=>j=i) (Ed.put (S:=fun j=>j=i) h (.inl rfl) (fun _=>hn) o) fun j hj hl=>by
  have e:j=i:=hj
  subst e
  rcases hi with hi|hi
  ·exact hi
  ·omega
theorem Ed.Abo {h0:Ac}(x:Ed S h0 h)(o:A9):Ed S h0 (h.new o):=x.trans (Ed.new _ _)
theorem Ed.at(c:Ed S h h')(hb:HB h){i:Nat}{o:A9}(g:h.get i=some o)(hn:¬ S i):h'.get i=some o:=by rw[c.get i (hb i o g) hn];exact g
theorem Ext.at(c:Ext h h')(hb:HB h){i:Nat}{o:A9}(g:h.get i=some o):h'.get i=some o:=Ed.at c hb g id
theorem Hz {i j:Nat}{o o':A9}(a:h.get i=some o)(b:h.get j=some o')(n:o ≠ o'):i ≠ j:=fun e=>n (by rw[e,b]at a;cases a;rfl)
noncomputable def Ac.lift(h:Ac):Ac:=⟨h.t,h.next,h.next⟩
structure Aq9(h h':Ac):Prop where
 get:∀ i,h'.get i=h.get i
 next:h'.next=h.next
theorem U8(h:Ac)(i:Nat):h.get i=h.t.get i:=by cases h;rfl
theorem Il(h:Ac)(i:Nat):h.lift.get i=h.get i:=by rw[U8,U8];rfl
theorem We {h:Ac}(a:HB h):HB h.lift:=fun q o e=>a q o (by rw[<-Il];exact e)
theorem Aq9.hb {h h':Ac}(a:Aq9 h h')(b:HB h):HB h':=fun q o e=>by rw[a.next];exact b q o (by rw[<-a.get];exact e)
section
variable {i b:Nat}{s:DX}{h:Ac}{call:Ac->R}{k:EV->Ac->DX->R}{P Q:EV->Ac->Prop}
theorem Ok.C0(hb:Po b s=true)(hl:loose b s.nw = [])(hc:Ok (call h.lift) P)(he:∀ v h1,P v h1->Ext h.lift h1)
 (hk:∀ v h1 h2,P v h1->Aq9 h1 h2->Ext h h2->Ok (k v h2 (s.Lw i)) Q):Ok (C0 i b s h call k) Q:=by
 obtain⟨v,h1,e,p⟩:=hc
 have x:=he v h1 p
 have hf:Gg b s h=h.lift:=by unfold Gg;rw[hl];rfl
 have hm:h.next<=h1.mw:=x.mw h.next (Nat.le_refl _) (Nat.le_refl _) fun _ y=>y.elim
 have hE:Ev.C0 i b s h call k=k v ⟨h1.t,h1.next,h.mw⟩ (s.Lw i):=by
  show Al (Po b s) (Ev.Bc (call (Gg b s h)) fun v h'=>Ip i b s h h' fun s h=>k v h s) none=_
  rw[hb,Ak,hf,e]
  show Ip i b s h h1 (fun s h=>k v h s)=_
  unfold Ip
  rw[Nat.ble_eq_true_of_le hm,Ak,hl];rfl
 rw[hE]
 refine hk v h1 _ p ⟨fun i=>by rw[U8,U8],rfl⟩ ⟨fun i hi hn=>?_,x.next,fun w w1 _ _=>w1,fun y=>?_⟩
 ·rw[U8];show h1.t.get i=_;rw[<-U8,x.get i hi hn,Il]
 ·exact Aq9.hb (h:=h1) ⟨fun i=>by rw[U8,U8],rfl⟩ (x.hb (We y))
theorem Cw {i b base q o:Nat}{s:DX}{k:DX->R}(hq:q<base)(hc:Al (Cf b q s.st) (Jb b q s.Oo) false=true):B2 i b base (.ptr q o) s k=k (s.ld i q):=by
 show Al (Pu b base q s) _ none=_
 unfold Pu
 rw[Nat.ble_eq_true_of_le (show Nat.succ q<=base from hq),Ak,hc,Ak]
theorem Ap1 {i b q o:Nat}{s:DX}{k:DX->R}(hc:Vv b q s=true):Aap i b (.ptr q o) s k=k (s.Nl i q):=by
 show Al (Vv b q s) _ none=_
 rw[hc,Ak]
end
section
variable {i o c n s j len:Nat}{h:Ac}{l l':List EV}{t:TypeId}{v:EV}{k:EV->R}{kh:EV->Ac->R}
noncomputable def rowOf:A9->Option (List EV)
 | .cells l _=>some l
 | .vec l _ _=>some l
 | _=>none
theorem Dq {x:A9}(hg:h.get i=some x)(hr:rowOf x=some l)(hv:l[o]? = some v):A5 (.ptr i o) h k=k v:=by
 show oB _ (Rs (h.get i) o 1)=_
 rw[hg]
 have hc:Oj l o 1=some [v]:=by
  obtain⟨h1,h2⟩:=List.getElem?_eq_some_iff.1 hv
  rw[Uw (by omega),List.drop_eq_getElem_cons h1,h2];rfl
 cases x <;> first|(cases hr;done)|(cases hr;show oB _ (Oj l o 1)=_;rw[hc];rfl)
theorem Aeg {q off ln rm sz:Nat}{op:Bool}{kd:IntKind}(hj:j<ln):M7 sz (.slice q off ln rm op) (.int kd (j:Int)) k=k (.ptr q (off+j*sz)):=Apv hj k kd
theorem Afs {x:A9}(hg:h.get i=some x)(hr:rowOf x=some l)(hv:Oj l o n=some l'):E2 n (.ptr i o) h k=k (.agg l'):=by
 show oB _ (Rs (h.get i) o n)=_
 rw[hg]
 cases x <;> first|(cases hr;done)|(cases hr;show oB _ (Oj l o n)=_;rw[hv];rfl)
theorem Ama {kk:Ac->R}(hg:h.get i=some (.cells l t))(hp:v.plain=true)(hn:Kb v.cells=n)(hl:Ki l o v.cells=some l'):Zk n (.ptr i o) v h kk=kk (h.put i (.cells l' t)):=by
 show Al v.plain (Al (Nat.beq (Kb v.cells) n) (Ns h i (fun l=>Ki l o v.cells) kk) none) none=_
 rw[hp,Ak,hn,Nat.beq_refl,Ak,Yx hg,hl];rfl
theorem Ok.st {kk:Ac->R}{Q:EV->Ac->Prop}(l':List EV)(hg:h.get i=some (.cells l t))(hp:v.plain=true)(hn:Kb v.cells=n)(hl:Ki l o v.cells=some l')(hk:Ok (kk (h.put i (.cells l' t))) Q):Ok (Zk n (.ptr i o) v h kk) Q:=by
 rw[Ama hg hp hn hl];exact hk
theorem Ok.st1 {kk:Ac->R}{Q:EV->Ac->Prop}(hg:h.get i=some (.cells l t))(hp:v.plain=true)(hc:v.cells = [v])(ho:o<l.length)(hk:Ok (kk (h.put i (.cells (l.set o v) t))) Q):Ok (Zk 1 (.ptr i o) v h kk) Q:=by
 rw[Ama hg hp (by rw[hc];rfl) (by rw[hc];exact Zi v l o ho)];exact hk
theorem Yp {a b:EV}{x:Bool}:Ca (.bool x) a b k=Al x (k a) (k b):=rfl
theorem Cc {h':Ac}:Bc (some (v,h')) kh=kh v h':=rfl
theorem Ai2 {kd kd':IntKind}{x:Int}:Vi kd (.int kd' x) k=k (.int kd (Ei kd x)):=rfl
theorem Akp {kd:IntKind}{x:Int}:Abh (.int kd x) k=k (.int kd (Ei kd (0-x))):=rfl
theorem F3 {place:Nat->Option (Nat × Nat)}{z:List EV}{ps:List (Nat × EV)}(hf:Qu place ps z=some l):En place z ps k=k (.agg l):=by
 unfold En;rw[hf];rfl
theorem B5 {l:List EV}{n:Nat}(hn:l.length=n):Oj l 0 n=some l:=by
 subst hn;rw[Uw (by omega),List.drop_zero,List.take_length]
theorem Ee {n:Int}(h1 : -9223372036854775808<=n)(h2:n<=9223372036854775807):Ei .i64 n=n:=Zt h1 (by omega)
end
theorem Aoa {b:Int}{T:Cr}{t:Nat}{a:Int}{k:EV->R}(hb:0<b)(h1:0<=a)(h2:a<9223372036854775808):Rj (bin T .quo t) (.int .i64 a) (.int .i64 b) k=k (.int .i64 (a / b)):=by
 obtain⟨n,rfl⟩:=Int.eq_ofNat_of_zero_le (Int.le_of_lt hb)
 show oB k (Al (eqB (.ofNat n) 0) none (some (.int .i64 (Ei .i64 (a.tdiv (.ofNat n))))))=_
 have:eqB (.ofNat n) 0=false:=by
  show Nat.beq n 0=false
  cases n with
  | zero=>exact absurd hb (by decide)
  | succ n=>rfl
 rw[this,Au]
 have e:a.tdiv (.ofNat n)=a / n:=Int.tdiv_eq_ediv_of_nonneg h1
 have h3:a / (n:Int)<=a:=Int.ediv_le_self _ h1
 have h4:0<=a / (n:Int):=Int.ediv_nonneg h1 (by omega)
 rw[e,Zt (by omega) (by omega)];rfl
section
variable {v v' w w' a a' b b' x':EV}{x y r r':R}{h h':Ac}{k:EV->R}{kh:EV->Ac->R}{kk:Ac->R}{kd:DX->R}{kb:Nat->DX->R}{ke:EV->Ac->DX->R}
@[congr] theorem Ok.c {Q:EV->Ac->Prop}(e:r=r'):Ok r Q=Ok r' Q:=by rw[e]
@[congr] theorem Al.c {α:Type}{p q:Bool}{x y:α}(e:p=q):Al p x y=Al q x y:=by rw[e]
@[congr] theorem oB.c {α β:Type}{k:α->Option β}{p q:Option α}(e:p=q):oB k p=oB k q:=by rw[e]
@[congr] theorem Bc.c(e:r=r'):Bc r kh=Bc r' kh:=by rw[e]
@[congr] theorem A5.c(e:v=v'):A5 v h k=A5 v' h k:=by rw[e]
@[congr] theorem E2.c {n:Nat}(e:v=v'):E2 n v h k=E2 n v' h k:=by rw[e]
@[congr] theorem Zk.c {n:Nat}(e:a=a')(e':v=v'):Zk n a v h kk=Zk n a' v' h kk:=by rw[e,e']
@[congr] theorem Wc.c {o o':A9}(e:o=o'):Wc o h kh=Wc o' h kh:=by rw[e]
@[congr] theorem Fs.c {t:Nat}(e:v=v'):Fs t v h kh=Fs t v' h kh:=by rw[e]
@[congr] theorem Az.c {g:IG}{f:EV->EV->Option EV}(e:v=v')(e':w=w'):Az g f v w k=Az g f v' w' k:=by rw[e,e']
@[congr] theorem Rj.c {f:EV->EV->Option EV}(e:v=v')(e':w=w'):Rj f v w k=Rj f v' w' k:=by rw[e,e']
@[congr] theorem Ca.c(e:v=v'):Ca v a b k=Ca v' a b k:=by rw[e]
@[congr] theorem Ta.c(e:v=v'):Ta v k=Ta v' k:=by rw[e]
@[congr] theorem Abh.c(e:v=v'):Abh v k=Abh v' k:=by rw[e]
@[congr] theorem Ce.c(e:v=v'):Ce v k=Ce v' k:=by rw[e]
@[congr] theorem A6.c {n:Nat}(e:v=v'):A6 n v k=A6 n v' k:=by rw[e]
@[congr] theorem An2.c {n m:Nat}(e:v=v')(e':w=w'):An2 n m v w k=An2 n m v' w' k:=by rw[e,e']
@[congr] theorem M7.c {n:Nat}(e:v=v')(e':w=w'):M7 n v w k=M7 n v' w' k:=by rw[e,e']
@[congr] theorem An3.c {n m q:Nat}{g:Bool}(e:v=v')(e':w=w'):An3 n m g q v w k=An3 n m g q v' w' k:=by rw[e,e']
@[congr] theorem R6.c {n m:Nat}{g:Bool}(e:v=v'):R6 n g m v k=R6 n g m v' k:=by rw[e]
@[congr] theorem Vi.c {c:IntKind}(e:v=v'):Vi c v k=Vi c v' k:=by rw[e]
@[congr] theorem Dn.c {n:Nat}(e:v=v'):Dn n v k=Dn n v' k:=by rw[e]
@[congr] theorem J0.c(e:v=v'):J0 v k=J0 v' k:=by rw[e]
@[congr] theorem Vu.c {n:Nat}(e:v=v'):Vu n v k=Vu n v' k:=by rw[e]
@[congr] theorem En.c {place:Nat->Option (Nat × Nat)}{z:List EV}{ps ps':List (Nat × EV)}(e:ps=ps'):En place z ps k=En place z ps' k:=by rw[e]
@[congr] theorem Ail.c {n:Nat}{lo lo' hi hi' mx mx':Option EV}(e:v=v')(e1:lo=lo')(e2:hi=hi')(e3:mx=mx'):Ail n v lo hi mx k=Ail n v' lo' hi' mx' k:=by rw[e,e1,e2,e3]
@[congr] theorem Xr.c {n m:Nat}{lo lo' hi hi' mx mx':Option EV}(e:v=v')(e1:lo=lo')(e2:hi=hi')(e3:mx=mx'):Xr n m v lo hi mx k=Xr n m v' lo' hi' mx' k:=by rw[e,e1,e2,e3]
@[congr] theorem Fz.c(e:v=v'):Fz v x y=Fz v' x y:=by rw[e]
@[congr] theorem Hw.c(e:h=h'):Hw h kb=Hw h' kb:=by rw[e]
@[congr] theorem B2.c {i b base:Nat}{s:DX}(e:v=v'):B2 i b base v s kd=B2 i b base v' s kd:=by rw[e]
@[congr] theorem Aap.c {i b:Nat}{s:DX}(e:v=v'):Aap i b v s kd=Aap i b v' s kd:=by rw[e]
@[congr] theorem Y3.c {i:Nat}{s s':DX}(e:s=s'):Y3 i h s kd=Y3 i h s' kd:=by rw[e]
@[congr] theorem C0.c {i b:Nat}{s s':DX}{call:Ac->R}(e:s=s'):C0 i b s h call ke=C0 i b s' h call ke:=by rw[e]
@[congr] theorem Afk.c {c:Ae}{T:Cr}{g n i:Nat}{tm:Ag}{ds:List Nat}{k1:Ac->List Nat->R}{k2:Nat->Ac->List Nat->R}{k3:Ac->List Nat->R}(e:v=v'):Afk c T g n i v tm h ds k1 k2 k3=Afk c T g n i v' tm h ds k1 k2 k3:=by rw[e]
@[congr] theorem Abi.c {c:Ae}{T:Cr}{g n i l0:Nat}{tm:Ag}{ds:List Nat}{k1:Ac->List Nat->R}{k2:Nat->Ac->List Nat->R}{k3:Ac->List Nat->R}(e:v=v'):Abi c T g n i l0 v tm h ds k1 k2 k3=Abi c T g n i l0 v' tm h ds k1 k2 k3:=by rw[e]
@[congr] theorem Ur.c {l:Nat}(e:h=h'):Ur l h kk=Ur l h' kk:=by rw[e]
end
theorem D9 {h:Ac}{i:Nat}{x:A9}{l:List EV}(hg:h.get i=some x)(hr:rowOf x=some l):∀ (o:Nat) (k:EV->R),A5 (.ptr i o) h k=oB k l[o]?:=by
 intro o k
 cases hv:l[o]? with
 | some v=>exact Dq hg hr hv
 | none=>
  show oB _ (Rs (h.get i) o 1)=_
  rw[hg]
  have hl:l.length<=o:=List.getElem?_eq_none_iff.1 hv
  have hc:Oj l o 1=none:=by
   rw[Nx,Fu,List.drop_eq_nil_of_le hl];rfl
  cases x <;> first|(cases hr;done)|(cases hr;show oB _ (Oj l o 1)=_;rw[hc];rfl)
theorem Ms {h:Ac}{i:Nat}{x:A9}{l:List EV}(hg:h.get i=some x)(hr:rowOf x=some l):∀ (n o:Nat) (k:EV->R),E2 n (.ptr i o) h k=oB (fun l=>k (.agg l)) (Oj l o n):=by
 intro n o k
 show oB _ (Rs (h.get i) o n)=_
 rw[hg]
 cases x <;> first|(cases hr;done)|(cases hr;rfl)
theorem Aj:
 (∀ (i o:Nat) (k:EV->R),Ce (.ptr i o) k=k (.ptr i o))/\(∀ (c i o:Nat) (k:EV->R),A6 c (.ptr i o) k=k (.ptr i (o+c))) /\
 (∀ (o:A9) (h:Ac) (k:EV->Ac->R),Wc o h k=k (.ptr h.next 0) (h.new o)) /\
 (∀ (t:Nat) (c:IntKind) (n:Int) (h:Ac) (k:EV->Ac->R),Fs t (.int c n) h k=k (.ptr h.next 0) (h.new (.cells [.int c n] t))) /\
 (∀ (t:Nat) (l:List EV) (h:Ac) (k:EV->Ac->R),Fs t (.agg l) h k=k (.ptr h.next 0) (h.new (.cells l t))) /\
 (∀ (t i o:Nat) (h:Ac) (k:EV->Ac->R),Fs t (.ptr i o) h k=k (.ptr h.next 0) (h.new (.cells [.ptr i o] t))) /\
 (∀ (t i o n m:Nat) (p:Bool) (h:Ac) (k:EV->Ac->R),Fs t (.slice i o n m p) h k=k (.ptr h.next 0) (h.new (.cells [.slice i o n m p] t))) /\
 (∀ (t:Nat) (h:Ac) (k:EV->Ac->R),Fs t .Ab h k=k (.ptr h.next 0) (h.new (.cells [.Ab] t))) /\
 (∀ (x:Bool) (a b:EV) (k:EV->R),Ca (.bool x) a b k=Al x (k a) (k b)) /\
 (∀ (x:Bool) (k:EV->R),Ta (.bool x) k=Al x (k (.bool false)) (k (.bool true))) /\
 (∀ (x:Bool) (a b:R),Fz (.bool x) a b=Al x a b) /\
 (∀ (k:EV->R),J0 .Ab k=k (.int .i64 0))/\(∀ (q off ln rm:Nat) (op:Bool) (k:EV->R),J0 (.slice q off ln rm op) k=k (.int .i64 (ln:Int))) /\
 (∀ (o:Nat) (l:List EV) (k:EV->R),Dn o (.tuple l) k=oB k l[o]?) /\
 (∀ (h:Ac) (k:Nat->DX->R),Hw h k=k h.next ⟨0,[],[],[],[]⟩)/\(∀ (i:Nat) (h:Ac) (s:DX) (k:DX->R),Y3 i h s k=k (s.new i h.next)) /\
 (∀ (v:EV) (h:Ac) (k:EV->Ac->R),Bc (some (v,h)) k=k v h) /\
 (∀ (o:Nat) (l:List EV) (k:EV->R),R6 o false 0 (.agg l) k=oB k l[o]?) /\
 (∀ (c c':IntKind) (n:Int) (k:EV->R),Vi c (.int c' n) k=k (.int c (Ei c n))) /\
 (∀ (x y:R),Al true x y=x)/\(∀ (x y:R),Al false x y=y)/\(Al true true false=true)/\(Al false true false=false)/\(Al true false true=false)/\(Al false false true=true)/\O8 true=false/\O8 false=true /\
 (∀ (k:EV->R) (v:EV),oB k (some v)=k v)/\(∀ (h:Ac) (v:EV),Sl TT [.v v] h=some (v,h))/\(∀ (h:Ac) (v w:EV),Sl TT [.v v,.v w] h=some (.tuple [v,w],h))/\(∀ (h:Ac) (v w x:EV),Sl TT [.v v,.v w,.v x] h=some (.tuple [v,w,x],h)) /\
 (∀ (h:Ac) (k:Ac->R),Gb [] h k=k h)/\(∀ (p:EV) (r:List EV),(p::r)[0]? = some p)/\(∀ (p:EV) (r:List EV) (n:Nat),(p::r)[n+1]? = r[n]?)/\(∀ n:Nat,0+n=n)/\(∀ (k:List EV->R) (l:List EV),oB k (some l)=k l):=
 ⟨fun _ _ _=>rfl,fun _ _ _ _=>rfl,fun _ _ _=>rfl,fun _ _ _ _ _=>rfl,fun _ _ _ _=>rfl,fun _ _ _ _ _=>rfl,fun _ _ _ _ _ _ _ _=>rfl,fun _ _ _=>rfl,fun _ _ _ _=>rfl,fun _ _=>rfl,fun _ _ _=>rfl,
  fun _=>rfl,fun _ _ _ _ _ _=>rfl,fun o l k=>by show oB k (Un l o)=_;rw[Ua],fun _ _=>rfl,fun _ _ _ _=>rfl,fun _ _ _=>rfl,fun o l k=>by show oB k (Un l o)=_;rw[Ua],fun _ _ _ _=>rfl,
  fun _ _=>rfl,fun _ _=>rfl,rfl,rfl,rfl,rfl,rfl,rfl,fun _ _=>rfl,fun _ _=>rfl,fun _ _ _=>rfl,fun _ _ _ _=>rfl,fun _ _=>rfl,fun _ _=>rfl,fun _ _ _=>rfl,Nat.zero_add,fun _ _=>rfl⟩
theorem Ff:
 (∀ (s:DX) (i q:Nat),s.ld i q=⟨s.bg,s.nw,(Nat.shiftLeft 1 i,q)::s.D9,s.Oo,s.st⟩)/\(∀ (s:DX) (i q:Nat),s.new i q=⟨s.bg,(Nat.shiftLeft 1 i,q)::s.nw,s.D9,s.Oo,s.st⟩) /\
 (∀ (s:DX) (i:Nat),s.Lw i=⟨Nat.lor s.bg (Nat.shiftLeft 1 i),s.nw,s.D9,s.Oo,s.st⟩)/\(∀ (b q:Nat),Cf b q []=true)/\(∀ (b q:Nat),Jb b q []=true):=
 ⟨fun _ _ _=>rfl,fun _ _ _=>rfl,fun _ _=>rfl,fun _ _=>rfl,fun _ _=>rfl⟩
theorem A2:
 (∀ (g:IG) (f:EV->EV->Option EV) (x y:Int) (k:EV->R),Az g f (.int .i64 x) (.int .i64 y) k=k (g .i64 x y)) /\
 (∀ (c:IntKind) (a b:Int),H5 c a b=.bool (decide (a<b)))/\(∀ (c:IntKind) (a b:Int),S2 c a b=.bool (decide (a<=b))) /\
 (∀ (c:IntKind) (a b:Int),Oe c a b=.bool (decide (b<a)))/\(∀ (c:IntKind) (a b:Int),Tq c a b=.bool (decide (b<=a))) /\
 (∀ (c:IntKind) (a b:Int),G7 c a b=.bool (decide (a=b)))/\(∀ (c:IntKind) (a b:Int),Mv c a b=.bool (decide (¬ a=b))) /\
 (∀ (c:IntKind) (a b:Int),He c a b=.int c (Ei c (a+b)))/\(∀ (c:IntKind) (a b:Int),Km c a b=.int c (Ei c (a-b)))/\(∀ (c:IntKind) (a b:Int),N2 c a b=.int c (Ei c (a*b))) /\
 (∀ (b w:Bool),B9 (.bool b) w=Al b w (O8 w))/\(∀ w,B9 (.tuple []) w=false):=
 ⟨fun _ _ _ _ _=>rfl,fun _ a b=>by rw[Aqb,Ui],fun _ a b=>by rw[Arz,Ui,Xi];congr 1;exact decide_eq_decide.2 (by omega),
  fun _ a b=>by rw[Ar5,Ui],fun _ a b=>by rw[Ari,Ui,Xi];congr 1;exact decide_eq_decide.2 (by omega),
  fun _ a b=>by rw[Apw,Af9],fun _ a b=>by rw[Aq7,Af9,Xi],
  fun _ a b=>by rw[Ar8,Ag5],fun _ a b=>by unfold Km;rw[Aee],fun _ a b=>rfl,fun _ _=>rfl,fun _=>rfl⟩
end Go.Ev

namespace Go.Ev
variable {h h':Ac}
def Fv(h:Ac)(s:EV)(q:Nat)(e:TypeId)(sz len:Nat)(l:List EV):Prop:=
 (len=0/\l = []/\(s=.Ab\/∃ b,s=.slice b 0 0 0 false))\/(0<len/\s=.slice q 0 len len true/\h.get q=some (.vec l e sz)/\l.length=len*sz)
theorem Fv.nil(h:Ac)(q:Nat)(e:TypeId)(sz:Nat):Fv h .Ab q e sz 0 []:=.inl ⟨rfl,rfl,.inl rfl⟩
theorem Fv.frame {s:EV}{q:Nat}{e:TypeId}{sz len:Nat}{l:List EV}(r:Fv h s q e sz len l)(g:0<len->h'.get q=h.get q):Fv h' s q e sz len l:=by
 rcases r with r|⟨a,b,c,d⟩
 ·exact .inl r
 ·exact .inr ⟨a,b,by rw[g a];exact c,d⟩
theorem Fv.len {s:EV}{q:Nat}{e:TypeId}{sz len:Nat}{l:List EV}(r:Fv h s q e sz len l):lenOf s=some len:=by
 rcases r with ⟨rfl,_,rfl|⟨_,rfl⟩⟩|⟨_,rfl,_⟩ <;> rfl
theorem Fv.size {s:EV}{q:Nat}{e:TypeId}{sz len:Nat}{l:List EV}(r:Fv h s q e sz len l):l.length=len*sz:=by
 rcases r with ⟨rfl,rfl,_⟩|⟨_,_,_,d⟩
 ·rw[Nat.zero_mul];rfl
 ·exact d
theorem Fv.ix {s:EV}{q:Nat}{e:TypeId}{sz len:Nat}{l:List EV}(r:Fv h s q e sz len l){j:Nat}(hj:j<len)(kd:IntKind)(k:EV->R):M7 sz s (.int kd (j:Int)) k=k (.ptr q (j*sz)):=by
 rcases r with ⟨rfl,_,_⟩|⟨_,rfl,_,_⟩
 ·omega
 ·rw[Aeg hj,Nat.zero_add]
theorem Fv.block {s:EV}{q:Nat}{e:TypeId}{sz len:Nat}{l:List EV}(r:Fv h s q e sz len l)(hl:0<len):h.get q=some (.vec l e sz):=by
 rcases r with ⟨rfl,_,_⟩|⟨_,_,c,_⟩
 ·omega
 ·exact c
theorem Fv.slice {s:EV}{q:Nat}{e:TypeId}{sz len:Nat}{l:List EV}(r:Fv h s q e sz len l)(hl:0<len):s=.slice q 0 len len true:=by
 rcases r with ⟨rfl,_,_⟩|⟨_,c,_⟩
 ·omega
 ·exact c
theorem Aey {s x:EV}{q:Nat}{e:TypeId}{sz len n:Nat}{l new:List EV}(r:Fv h s q e sz len l)(hx:lenOf x=some n)(hn:0<n)(hn':n<=65536)(hl:len<=65536)(hc:Pz h sz n x=some new)(hs:new.length=n*sz):
 ∃ h',Fo e sz s x h=some (.slice h.next 0 (len+n) (len+n) true,h')/\Fv h' (.slice h.next 0 (len+n) (len+n) true) h.next e sz (len+n) (l++new)/\h'.next=h.next+1/\Ed (fun i=>0<len/\i=q) h h':=by
 have e0:Nat.beq n 0=false:=by cases n with|zero=>omega|succ n=>rfl
 rcases r with ⟨rfl,rfl,rfl|⟨b,rfl⟩⟩|⟨hp,rfl,hq,hlen⟩
 ·refine⟨h.new (.vec new e sz),?_,.inr ⟨by omega,rfl,?_,by rw[List.nil_append,Nat.zero_add];exact hs⟩,rfl,Ed.new _ _⟩
  ·unfold Fo
   simp only[hx,Afj,e0,Au,hc,Nat.ble_eq_true_of_le hn',Ak,Nat.zero_add]
  ·rw[As];rfl
 ·have e2:Nat.ble (Nat.add 0 n) 0=false:=by cases n with|zero=>omega|succ n=>show Nat.ble (0+(n+1)) 0=false;rw[Nat.zero_add];rfl
  have e3:Pz h sz 0 (.slice b 0 0 0 false)=some []:=rfl
  refine⟨h.new (.vec new e sz),?_,.inr ⟨by omega,rfl,?_,by rw[List.nil_append,Nat.zero_add];exact hs⟩,rfl,Ed.new _ _⟩
  ·unfold Fo
   simp only[hx,Afj,e0,Au,hc,e3,e2,Nat.ble_eq_true_of_le hn',Nat.ble_eq_true_of_le hl,Ak]
   rfl
  ·rw[As];rfl
 ·have hs2:Pz h sz len (.slice q 0 len len true)=some l:=by
   show Al (Nat.beq len 0) (some []) (X8 h q 0 (Nat.mul len sz))=_
   have:Nat.beq len 0=false:=by cases len with|zero=>omega|succ n=>rfl
   rw[this,Au]
   unfold X8 Qh
   rw[hq]
   exact B5 hlen
  refine⟨(h.del q).new (.vec (l++new) e sz),?_,.inr ⟨by omega,rfl,?_,by rw[List.length_append,hlen,hs,Nat.add_mul]⟩,rfl,?_⟩
  ·unfold Fo
   simp only[hx,Afj,e0,Au,hc,hs2,hq,Nat.ble_eq_true_of_le hn',Nat.ble_eq_true_of_le hl,Ak]
   rw[show Nat.beq 0 0=true from rfl,Ak,Nat.beq_refl,Ak,Nt,hlen,show Nat.beq (len*sz) (Nat.mul len sz)=true from Nat.beq_refl _,Ak,Nat.beq_refl,Ak,Nat.beq_refl,Ak,Wd]
   rfl
  ·rw[show h.next=(h.del q).next from rfl,As]
  ·exact(Ed.del h (.inl ⟨hp,rfl⟩)).trans (Ed.new _ _)
theorem Vg {z:List EV}{e:TypeId}{sz:Nat}{v:EV}(hp:v.plain=true)(hz:z.length=sz)(hv:v.cells.length=sz)(hs:sz<=65536):D8 z e sz 1 [(0,v)] h=some (.slice h.next 0 1 1 false,h.new (.cells v.cells e)):=by
 unfold D8 Jd
 simp only
 rw[Nat.ble_eq_true_of_le (show Nat.mul 1 sz<=65536 by show 1*sz<=65536;omega),Ak]
 have hf:Qu (Acf sz) [(0,v)] (rep z 1)=some v.cells:=by
  show oB (Ti fun off size=>Al v.plain (Al (Nat.beq (Kb v.cells) size) (oB _ (Ki (rep z 1) off v.cells)) none) none) (Acf sz 0)=_
  show Al v.plain (Al (Nat.beq (Kb v.cells) sz) (oB _ (Ki (rep z 1) (Nat.mul 0 sz) v.cells)) none) none=_
  rw[hp,Ak,Nt,hv,Nat.beq_refl,Ak]
  have:rep z 1=z:=by show z++[]=z;rw[List.append_nil]
  rw[this,show Nat.mul 0 sz=0 from Nat.zero_mul sz,U3 (by rw[hz,hv])]
  rfl
 rw[hf];rfl
theorem Aa5 {b:Nat}{e:TypeId}{sz:Nat}{l:List EV}(hb:h.get b=some (.cells l e))(hl:l.length=sz):Pz h sz 1 (.slice b 0 1 1 false)=some l:=by
 show Al (Nat.beq 1 0) (some []) (X8 h b 0 (Nat.mul 1 sz))=_
 rw[show Nat.beq 1 0=false from rfl,Au]
 unfold X8 Qh
 rw[hb]
 exact B5 (by rw[hl];show sz=1*sz;omega)
theorem Yk {s v:EV}{q:Nat}{e:TypeId}{sz len:Nat}{l z:List EV}{k:EV->Ac->R}{Q:EV->Ac->Prop}(r:Fv h s q e sz len l)(hb:HB h)(hp:v.plain=true)(hz:z.length=sz)(hv:v.cells.length=sz)(hs:sz<=65536)(hl:len<=65535)
 (hk:∀ h',Fv h' (.slice (h.next+1) 0 (len+1) (len+1) true) (h.next+1) e sz (len+1) (l++v.cells)->h'.next=h.next+2->Ed (fun i=>0<len/\i=q) h h'->Ok (k (.slice (h.next+1) 0 (len+1) (len+1) true) h') Q) :
 Ok (Bc (D8 z e sz 1 [(0,v)] h) fun w h=>Bc (Fo e sz s w h) k) Q:=by
 rw[Vg hp hz hv hs,Cc]
 have r1:Fv (h.new (.cells v.cells e)) s q e sz len l:=r.frame fun hl=>Hm _ (hb q _ (r.block hl))
 obtain⟨h',e1,r2,n2,c2⟩:=Aey (n:=1) (x:=.slice h.next 0 1 1 false) r1 rfl (by omega) (by omega) (by omega) (Aa5 (As _ _) hv) (by rw[hv];omega)
 rw[e1,Cc]
 exact hk h' r2 n2 ((Ed.new h _).trans c2)
end Go.Ev
